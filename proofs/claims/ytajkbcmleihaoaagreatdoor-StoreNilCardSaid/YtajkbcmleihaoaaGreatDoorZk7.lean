/- Joined texts of the walk, made small by a program. -/
import Derived.Test.YtajkbcmleihaoaaGreatDoorZk6
import Derived.Test.YtajkbcmleihaoaaGreatDoorZk4
import Derived.Test.YtajkbcmleihaoaaGreatDoorRows
import Derived.KernelRfl
import Derived.Test.YtajkbcmleihaoaaGreatDoorZk5
import Derived.Sort.Walk0
import Derived.Shelf.Strings.Builder1
import Derived.Shelf.Strings.Builder2
import Derived.Shelf.Strings.OnBuilder
import Derived.Shelf.Small.Utf8
import Derived.Shelf.Small.Bits
import Derived.Shelf.Small.Strs
import Derived.Shelf.Strconv.Itoa0
import Derived.Shelf.Strings.Search1
import Derived.Shelf.Strings.Search2
import Derived.Shelf.Strings.Cut
import Derived.Shelf.LaysM
import Derived.Shelf.Strings.Shaped
import Derived.Shelf.Sort.Plain
import Derived.Shelf.Strings.Prefix
import Derived.Shelf.Strings.Runes
import Derived.Shelf.Strings.AsciiSet
import Derived.Shelf.Bits.Mul64
import Derived.Shelf.Unicode.DecodeSlow
import Derived.Shelf.Unicode.DecodeAny
import Derived.Shelf.Unicode.DecodeLast
import Derived.Shelf.Slices.Equal
import Derived.Shelf.Slices.In.SortNone
import Derived.Ground.SlsfProg
import Derived.Shelf.SlSortCmp.Insertion
import Derived.Shelf.SlSortCmp.SiftDown1
import Derived.Shelf.SlSortCmp.HeapSort1
import Derived.Shelf.SlSortCmp.Insertion1
import Derived.Shelf.SlSortCmp.Median1
import Derived.Shelf.SlSortCmp.Pivot1
import Derived.Shelf.SlSortCmp.ReverseRange1
import Derived.Shelf.SlSortCmp.PartialInsertion1
import Derived.Shelf.SlSortCmp.PartitionEqual1
import Derived.Shelf.SlSortCmp.Partition1
import Derived.Shelf.SlSortCmp.Pdq1
import Derived.Shelf.SlSortCmp.Whole1
import Derived.Shelf.Spec.SlicesGrow
import Derived.Ground.Names8Prog
import Derived.Test.YtajkbcmleihaoaaGreatDoorProg
set_option linter.unusedSimpArgs false
set_option linter.unusedVariables false
namespace Go.Proofs.YtajkbcmleihaoaaGreatDoor.Av
open Go
def EX(a:Ava):Ava:=(aE a.1,bC a.2)
abbrev Hf(a:Ava):List UInt8:=avT false a
def MU(l:Rdn)(x:Ava):Nat->Nat
 |0=>0
 |n+1=>if Hf x<Hf (l.getD n ([],[]))then MU l x n else n+1
def Nq(l:Rdn)(x:Ava):Rdn:=l.take (MU l x l.length)++[x]++l.drop (MU l x l.length)
def rO(r:Rdn):Rdn:=r.foldl (λl a=>Nq l (EX a)) []
def xL(d:List Rdn):List Rdn:=d.map rO
theorem Tr(l:Rdn)(x:Ava):∀n,MU l x n<=n
 |0=>abA _
 |n+1=>by have:=Tr l x n;unfold MU;split<;>omega
theorem WE(l:Rdn)(x:Ava):(Nq l x).length=l.length+1:=by simp[Nq];omega
theorem Ny(r:Rdn):∀l:Rdn,(r.foldl (λl a=>Nq l (EX a)) l).length=l.length+r.length:=by
 induction r with
 |nil=>simp
 |cons a r ih=>intro l;rw[acI,ih,WE];simp;omega
theorem MX(r:Rdn):(rO r).length=r.length:=by simp[rO,Ny]
theorem Ts(l:Rdn)(x:Ava):∀(n j:Nat),MU l x n<=j->j<n->Hf x<Hf (l.getD j ([],[]))
 |0,_,_,h=>aeu
 | n+1,j,h1,h2=>by
   unfold MU at h1;split at h1
   .rename_i hk;rcases ab5 j n with e|e
    .exact Ts l x n j h1 e
    grind
   omega
theorem Tt(l:Rdn)(x:Ava):∀n,MU l x n=0\/¬Hf x<Hf (l.getD (MU l x n-1) ([],[]))
 |0=>.inl rfl
 | n+1=>by
   unfold MU;split
   .exact Tt l x n
   simp_all
def Pq(l:Rdn):Prop:=l.Pairwise λa b=>Hf a<=Hf b
theorem Sn{l:Rdn}{x:Ava}(r:Pq l):Pq (Nq l x):=by
 have f:=Ts l x l.length;have h:=Tt l x l.length;have o:=Tr l x l.length;unfold Nq;obtain⟨p,t⟩:=abr (MU l x l.length);rw[t]at f h o⊢;have m:Pq (l.take p++l.drop p):=by rw[ac4];exact r
 obtain⟨u,v,w⟩:=List.pairwise_append.1 m;have n:∀a∈l.take p,Hf a<=Hf x:=λa n=>by
  rcases h with e|e;simp_all;have g:p-1<l.length:=by grind
  refine List.le_trans ?_ (List.not_lt.1 e);obtain⟨i,s,rfl⟩:=adv.1 n;rw[List.getElem_take];have j:l.getD (p-1) ([],[])=l[p-1]:=(by simp[g]);rw[j];rcases ab5 i (p-1)with q|q;exact(List.pairwise_iff_getElem.1 r) i (p-1) aeu g q
  grind
 have k:∀b∈l.drop p,Hf x<=Hf b:=λb k=>by obtain⟨i,s,rfl⟩:=adv.1 k;simp only[acK]at s;rw[List.getElem_drop];have:=f (p+i) aeu aeu;have j:l.getD (p+i) ([],[])=l[p+i]:=(by simp[show p+i<l.length by omega]);rw[j]at this;exact List.le_of_lt this
 unfold Pq;rw[abK,List.pairwise_append];refine⟨u,?_,?_⟩;simp only[adN,List.pairwise_cons];exact⟨k,v⟩;intro a d b c;simp only[adN,abY]at c;rcases c with rfl|c;exact n a d;exact w a d b c
theorem WD(l:Rdn)(x:Ava):(Nq l x).Perm (x::l):=by unfold Nq;rw[abK];refine(List.perm_middle (l₁:=l.take _) (l₂:=l.drop _)).trans ?_;simp
theorem Nz:∀(r l:Rdn),Pq l->Pq (r.foldl (λl a=>Nq l (EX a)) l)/\(r.foldl (λl a=>Nq l (EX a)) l).Perm (l++r.map EX)
 |[],l,h=>by simpa using h
 | a::r,l,h=>by
   obtain⟨c,b⟩:=Nz r (Nq l (EX a)) (Sn h);refine⟨c,b.trans ?_⟩;refine((WD l (EX a)).append_right _).trans ?_
   grind
theorem YW(a:Ava):avT true a=Hf (EX a):=by simp[avT,EX]
theorem R6(r:Rdn):(rO r).map Hf=dR (r.map (avT true)):=by
 obtain⟨d,e⟩:=Nz r [] List.Pairwise.nil;refine aek (le:=λx y=>x<=y) (λa b _ _=>List.le_antisymm) ?_ ?_ ?_;rw[List.pairwise_map];exact d;have:=ad8 (le:=λx y:List UInt8=>decide (x<=y)) (λa b c d e=>by
  simp only[decide_eq_true_eq]at *;exact List.le_trans d e) (λa b=>by
  simp only[acn,decide_eq_true_eq];exact List.le_total a b) (r.map (avT true))
 exact this.imp λh=>by simpa using h
 refine(e.map Hf).trans ?_;refine List.Perm.trans ?_ (acZ _ _).symm;rw[aco,abW];rfl
theorem UA(r:Rdn):cC false (rO r)=cC true r:=by have:=R6 r;simp only[cC,abT,if_false,if_true];simp[*]
theorem MV(d:List Rdn):aN false (xL d)=aN true d:=by unfold aN xL;rw[abW];rw[show(cC false∘rO)=cC true from funext UA]
set_option maxHeartbeats 8000000
set_option maxRecDepth 100000
theorem Tc(v:List UInt8)(rest:List UInt8)(hr:rest=[]\/∃c t,rest=c::t/\(c=44\/c=43)):∀(s b:List UInt8) (bl:Bool),b++s=v->(s=[]->bl=false)->j8 b bl (wrL v.length b.length s++rest)=some (v,rest,true)
 | [],b,bl,e,h=>by
   rw[ab1]at e;subst e;rw[h rfl];rcases hr with rfl|⟨c,t,rfl,f⟩
   .rfl
   .exact JY f
 | c::s,b,bl,e,h=>by
   have j:=λa (k:s=[]->a=false)=>Tc v rest hr s (b++[c]) a (by rw[<- e];simp) k
   have i:(b++[c]).length=b.length+1:=aev;rw[i]at j;rw[wrL,abK];unfold wrB;split
   .rename_i f;subst f;exact j false (λ_=>rfl)
   .rename_i f;split
    .rename_i d;show j8 b bl (92::c::(wrL v.length (b.length+1) s++rest))=_;rw[JZ]
     .simp_all
     .rcases d with⟨_,rfl|rfl⟩|⟨_,rfl⟩|d
      .simp
      .simp
      .simp
      grind
    .rename_i d;show j8 b bl (c::(wrL v.length (b.length+1) s++rest))=_;have g:¬c∈([34,43,44,59,60,62,92]:List UInt8):=λq=>d (.inr (.inr q))
     simp only[abY,acF,or_false,not_or]at g;rw[G5 (λq=>q.elim (λq=>g.2.2.1 q) (λq=>g.2.1 q)) (λq=>g.2.2.2.2.2.2 q)]
     grind
theorem G4(v:List UInt8){rest:List UInt8}(hr:rest=[]\/∃c t,rest=c::t/\(c=44\/c=43)):j8 [] false (ki v++rest)=some (v,rest,true):=
 Tc v rest hr v [] false rfl (λ_=>rfl)
theorem Ri:∀(t r:List UInt8),(∀c∈t,c≠61)->Hk (t++61::r)=some (t,r)
 |[],r,_=>by simp[Hk]
 |c::t,r,h=>by rw[acp,Hk,if_neg (h c aev),Ri t r (λx a=>h x (by simp[a]))]
theorem VF{t:List UInt8}(h:vu t=true):∀c∈t,c≠61:=by intro c a e;simp only[vu,abH,abL]at h;have:=h.2 c a;rw[e]at this;exact absurd this (by decide)
theorem Nm(x sep:List UInt8)(xs:List (List UInt8)):Lib.join (x::xs) sep=x++xs.flatMap (λy=>sep++y):=by
 induction xs generalizing x with
 |nil=>simp[Lib.join,List.intercalate]
 | cons y l ih =>
   have e:Lib.join (x::y::l) sep=x++(sep++Lib.join (y::l) sep):=(by simp[Lib.join,List.intercalate]);simp[*]
def l9(t:Rdn):List UInt8:=t.flatMap λa=>43::avT false a
def lO(d:List Rdn):List UInt8:=d.flatMap λr=>44::cC false r
theorem OV(a:Ava)(t:Rdn):cC false (a::t)=avT false a++l9 t:=by simp only[cC,abT,if_false,abO,Nm,l9];simp[List.flatMap_map]
theorem Ue(r:Rdn)(d:List Rdn):aN false (r::d)=cC false r++lO d:=by simp only[aN,abO,Nm,lO];simp[List.flatMap_map]
theorem MZ:∀(f:Nat) (b:List Rdn) (c:Rdn) (a:Ava) (t:Rdn) (d:List Rdn),(avT false a++(l9 t++lO d)).length<f->b.length<32->eo c (a::t)=0->nr (b.length+1) d=0 ->
  LR f b c (avT false a++(l9 t++lO d))=(b++[c++a::t]++d,0)
 |0,_,_,_,_,_,h,_,_,_=>aeu
 | f+1,b,c,(ty,v),t,d,hf,ho,hc,hd=>by
   unfold eo at hc;split at hc
   .omega
   rename_i l;split at hc
   .omega
   rename_i e;split at hc
   .omega
   rename_i i;simp only[Bool.not_eq_false]at e;have k:avT false (ty,v)++(l9 t++lO d)=ty++61::(ki v++(l9 t++lO d)):=(by simp[avT]);rw[k]at hf⊢;rw[LR,if_neg aeu,Ri _ _ (VF e)];simp only;rw[if_neg (by simp[e]),if_neg i];rcases t with _|⟨g,t⟩
   .rcases d with _|⟨r,d⟩
    .rw[show l9 []++lO []=([]:List UInt8)from rfl];rw[G4 v (.inl rfl)];simp
    .rw[show l9 []++lO (r::d)=44::(cC false r++lO d)by simp[l9,lO]]at hf⊢;rw[G4 v (.inr ⟨44,_,rfl,.inl rfl⟩)];unfold nr at hd;split at hd
     .omega
     rename_i m;split at hd
     .omega
     rename_i n;split at hd
     .omega
     rename_i o;rcases r with _|⟨g,t⟩
     .simp_all
     have j:=MZ f (b++[c++[(ty,v)]]) [] g t d;rw[OV,abK]at hf⊢
     grind
   .rw[show l9 (g::t)++lO d=43::(avT false g++(l9 t++lO d))by simp[l9]]at hf⊢;rw[G4 v (.inr ⟨43,_,rfl,.inr rfl⟩)];have j:=MZ f b (c++[(ty,v)]) g t d
    grind
theorem QD{d:List Rdn}(h:nr 0 d=0)(e:(aN false d).length<=4096):kI (aN false d)=(d,0):=by unfold kI;rw[if_neg aeu];rcases d with _|⟨r,d⟩;rfl;unfold nr at h;split at h;omega;split at h;omega;rename_i c;split at h;omega;rename_i b;simp only[ne_eq,adQ]at b;rcases r with _|⟨a,t⟩;simp_all;rw[Ue,OV,abK];rw[if_neg (by simp[avT])];have:=MZ ((avT false a++(l9 t++lO d)).length+1) [] [] a t d aeu aev b h;simp_all
structure Upd where
 kind:Int
 dn:List Rdn
 tw:List Rdn
 attrs:List Atr
abbrev QJ:Upd:=⟨0,[],[],[]⟩
def Ov(l:List Atr):Nd:=.mk 48 [] (l.map Fa)
def CE(k:Int)(s t:List UInt8)(l:List Atr):Nd :=
 .mk 48 [] (([.mk 2 [b8 k.toNat] [],bA s]++if k=4 then[bA t]else[])++if k=2 then[]else[Ov l])
def wrU(u:Upd):List UInt8×Int :=
 if u.kind<1\/4<u.kind then([],24)else if(prS u.dn).2≠0 then([],(prS u.dn).2)else if u.kind=4/\(prS u.tw).2≠0 then([],(prS u.tw).2)
 else fc 4 (CE u.kind (prS u.dn).1 (prS u.tw).1 u.attrs)
def kX(u:Upd):Upd:=⟨u.kind,u.dn,if u.kind=4 then u.tw else[],if u.kind=2 then[]else u.attrs⟩
def vt(l:List Nd):List (List UInt8):=l.map Nd.data
def xE:List Nd->Option (List Atr)
 |[]=>some []
 |a::l=>if a.kids.length≠2 then none else(xE l).map λr=>((a.kids.getD 0 bZ).data,vt (a.kids.getD 1 bZ).kids)::r
def R0(n:Nd):Option Upd :=
 let l:=n.kids
 if l.length<2\/4<l.length then none else
 match R8 (l.getD 0 bZ).data with
 |none=>none
 | some k =>
   let p:=kI (l.getD 1 bZ).data
   let r:=l.drop 2
   let q:=if k=4/\r≠[]then kI (r.getD 0 bZ).data else([],0)
   let r':=if k=4 then r.drop 1 else r
   if p.2≠0\/q.2≠0\/1<r'.length then none else
   match r' with
   |[]=>some ⟨k,p.1,q.1,[]⟩
   |x::_=>(xE x.kids).map λa=>⟨k,p.1,q.1,a⟩
def rdU(s:List UInt8):Upd×Int:=match LM s with
 |.error e=>(QJ,e)
 | .ok n=>match R0 n with
   |none=>(QJ,4)
   |some u=>if(wrU u).2≠0\/(wrU u).1≠s then(QJ,4)else(kX u,0)
def Tq(a:Nd):Option Atr :=
 if a.tag≠48\/a.kids.length≠2\/(a.kids.getD 0 bZ).tag≠4\/(a.kids.getD 1 bZ).tag≠49 then none else
 if(a.kids.getD 1 bZ).kids.all (λv=>decide (v.tag=4))=true then some ((a.kids.getD 0 bZ).data,vt (a.kids.getD 1 bZ).kids)else none
def J4:List Nd->Option (List Atr)
 |[]=>some []
 | a::l=>match Tq a with
   |none=>none
   |some x=>(J4 l).map λr=>x::r
def Fd(n:Nd):Option Upd :=
 let l:=n.kids
 let k:Int:=((l.getD 0 bZ).data.getD 0 0).toNat
 if n.tag≠48\/l.length<2\/(l.getD 0 bZ).tag≠2\/(l.getD 0 bZ).data.length≠1 then none else
 if k<1\/4<k\/l.length≠1+(if k=4 then 2 else 1)+(if k=2 then 0 else 1)then none else
 if(kI (l.getD 1 bZ).data).2≠0\/(l.getD 1 bZ).tag≠4 then none else
 if k=4/\((kI (l.getD 2 bZ).data).2≠0\/(l.getD 2 bZ).tag≠4)then none else
 if k=2 then some ⟨k,(kI (l.getD 1 bZ).data).1,[],[]⟩else
 let x:=l.getD (l.length-1) bZ
 if x.tag≠48 then none else
 (J4 x.kids).map λa=>⟨k,(kI (l.getD 1 bZ).data).1,if k=4 then(kI (l.getD 2 bZ).data).1 else[],a⟩
theorem PE{d:List Rdn}(h:(prS d).2=0):kI (prS d).1=(d,0):=by unfold prS at h⊢;split at h;rename_i a;exact absurd h a;rename_i a;split at h;cases h;rename_i b;split at h;cases h;rename_i c;rw[if_neg a,if_neg b,if_neg c];exact QD (by simpa using a) aeu
theorem Mk(d:List Rdn):(prS d).1.length<=4096:=by
 unfold prS
 repeat' split
 all_goals first|(simp;done)|(simp only;omega)
theorem YO(t:UInt8){n:Nat}(c:n<=1048576)(rest:List UInt8):Kw (t::(xS n++rest))=.ok (n,1+(xS n).length):=by
 unfold xS;split;rename_i h;simp[Kw,HB,show n%256=n by omega,h];split;rename_i a h;have e:bV [b8 n]=n:=by simp only[bV,acI,adU,HB];omega
 simp[Kw,e,show ¬1048576<n by omega];rw[if_neg aeu,if_neg aeu];split;rename_i a b h;have e:bV [b8 (n/256),b8 n]=n:=by simp only[bV,acI,adU,HB];omega
 simp[Kw,e,show ¬1048576<n by omega];rw[if_neg aeu,if_neg aeu];rename_i a b h;have e:bV [b8 (n/65536),b8 (n/256),b8 n]=n:=by simp only[bV,acI,adU,HB];omega
 simp[Kw,e,show ¬1048576<n by omega];rw[if_neg aeu,if_neg aeu]
theorem QC{t:Nat}(j:t<256)(a:t%32≠31){body:List UInt8}(c:body.length<=1048576)(rest:List UInt8)(f:Nat):
  mU (f+1) (b8 t::(xS body.length++body)++rest)=if t/32%2=0 then .ok (.mk t body [],rest)else match pT (mU f) body.length body with
   |.error e=>.error e
   |.ok ks=>.ok (.mk t [] ks,rest):=by
 have d:b8 t::(xS body.length++body)++rest=b8 t::(xS body.length++(body++rest)):=aev;have g:=YO (b8 t) c (body++rest);have h:(b8 t).toNat=t:=by rw[HB];omega
 have b:((b8 t::(xS body.length++(body++rest))).drop (1+(xS body.length).length))=body++rest:=by rw[Nat.add_comm,ad5,List.drop_left]
 have i:((b8 t::(xS body.length++(body++rest))).drop (1+(xS body.length).length+body.length))=rest:=by rw[<- adh,b,List.drop_left]
 rw[d,mU,if_neg aev];simp only[g,b,i,List.getD_cons_zero,h,if_neg a,List.take_left];rw[if_neg (by simp;omega)];rfl
theorem Wa{t:Int}{d:List UInt8}:∀h:Nat,fc h (.mk t d [])=if 1048576<d.length then([],5)else(b8 t.toNat::(xS d.length++d),0)
 |0=>rfl
 |h+1=>by rw[fc,if_neg (by simp[rV])];rfl
theorem QB{t:Int}(c:t=2\/t=4){d rest:List UInt8}{h f:Nat}(a:(fc h (.mk t d [])).2=0):mU (f+1) ((fc h (.mk t d [])).1++rest)=.ok (.mk t d [],rest):=by rw[Wa]at a⊢;split at a;cases a;rename_i b;rw[if_neg b];have:=QC (t:=t.toNat) aeu aeu (body:=d) aeu rest f;rw[if_pos aeu]at this;rw[this];congr 3;omega
theorem QR{p:Nd->List UInt8×Int}{q:List UInt8->Except Int (Nd×List UInt8)}:∀(d:List Nd) (a:List UInt8),(∀k∈d,(p k).2=0->(p k).1≠[]/\∀rest,q ((p k).1++rest)=.ok (k,rest))->(rV p a d).2=0 ->
  ∃b,(rV p a d).1=a++b/\∀F,b.length<=F->pT q F b=.ok d
 |[],a,_,_=>⟨[],by simp[rV],λF _=>by cases F<;>rfl⟩
 | n::l,a,hq,hc=>by
   rw[rV]at hc⊢;split at hc
   .rename_i h;exact absurd hc h
   rename_i i;have f:(p n).2=0:=(by simpa using i);rw[if_neg i];obtain⟨b,u,v⟩:=QR l (a++(p n).1) (λk t=>hq k (by simp[t])) hc;obtain⟨o,h4⟩:=hq n aev f;refine⟨(p n).1++b,by rw[u];simp,λF s=>?_⟩;have j:=acr.2 o;rw[abP]at s;obtain⟨g,rfl⟩:∃g,F=g+1:=⟨F-1,aeu⟩;obtain⟨c,r,e⟩:∃c r,(p n).1++b=c::r:=by
    rcases hh:(p n).1 with _|⟨c,r⟩
    .exact absurd hh o
    .exact⟨c,r++b,rfl⟩
   have m:=h4 b;rw[e]at m⊢;rw[pT,m]
   .simp only[v g aeu]
   .simp
theorem ZQ{h:Nat}{n:Nd}(a:(fc h n).2=0):(fc h n).1≠[]:=by
 obtain⟨t,d,b⟩:=n;cases h with
 | zero =>
   rw[fc]at a⊢;split at a
   .cases a
   .rename_i e;rw[if_neg e];simp
 | succ h =>
   rw[fc]at a⊢;split at a
   .rename_i e;exact absurd a e
   rename_i e;rw[if_neg e];split at a
   .cases a
   .rename_i e;rw[if_neg e];simp
theorem Tv:∀(h:Nat) (n:Nd) (rest:List UInt8) (f:Nat),okN h n->(fc h n).2=0->h<f->mU f ((fc h n).1++rest)=.ok (n,rest)
 |0,.mk t d ks,rest,f,ho,hp,hf=>by obtain⟨i,rfl,_⟩:=ho;obtain⟨a,rfl⟩:∃a,f=a+1:=⟨f-1,aeu⟩;exact QB i hp
 | h+1,.mk t d ks,rest,f,ho,hp,hf=>by
   obtain⟨a,rfl⟩:∃a,f=a+1:=⟨f-1,aeu⟩;rcases ho with⟨i,rfl,_⟩|⟨i,rfl,_,m⟩
   .exact QB i hp
   have c:(rV (fc h) [] ks).2=0:=by
    rw[fc]at hp;split at hp
    .rename_i e;exact absurd hp e
    .rename_i e;simpa using e
   obtain⟨b,l,o⟩:=QR (p:=fc h) (q:=mU a) ks [] (λk j g=>⟨ZQ g,λrest=>Tv h k rest a (m k j) g aeu⟩) c;rw[aco]at l;rw[fc,if_neg (by simpa using c),l]at hp⊢;split at hp
   .cases hp
   rename_i r;rw[if_neg r];have:=QC (t:=t.toNat) aeu aeu (body:=b) aeu rest a;rw[if_neg aeu,o _ (abA _)]at this;simp only at this;rw[show((t.toNat:Nat):Int)=t by omega]at this;exact this
theorem XS{h:Nat}{n:Nd}(a:okN h n)(b:(fc h n).2=0)(c:h<64):LM (fc h n).1=.ok n:=by have:=Tv h n [] 64 a b c;rw[ab1]at this;rw[LM,this];simp
theorem UD{k:Int}(a:1<=k)(h4:k<=4):R8 [b8 k.toNat]=some k:=by have:k=1\/k=2\/k=3\/k=4:=aeu;rcases this with rfl|rfl|rfl|rfl<;>decide
theorem UQ{k:Int}(a:1<=k)(h4:k<=4):Sl k=[b8 k.toNat]:=by have:k=1\/k=2\/k=3\/k=4:=aeu;rcases this with rfl|rfl|rfl|rfl<;>decide
theorem UK{k:Int}(a:1<=k)(h4:k<=4):((b8 k.toNat).toNat:Int)=k:=by rw[HB];omega
theorem Ua(l:List (List UInt8)):vt (l.map bA)=l:=by
 induction l with
 |nil=>rfl
 |cons x l ih=>simp only[vt,abO]at ih⊢;rw[ih];rfl
theorem Ux(a:Atr):Tq (Fa a)=some a:=by
 have e:(a.2.map bA).all (λv=>decide (v.tag=4))=true:=by rw[abL];intro x b;obtain⟨y,_,rfl⟩:=abB.1 b;rfl
 simp[Tq,Fa,Nd.kids,Nd.tag,bA,Nd.data]at e⊢;simp[Ua]
theorem qh:∀l:List Atr,J4 (l.map Fa)=some l
 |[]=>rfl
 |a::l=>by rw[abO,J4,Ux,qh l];rfl
theorem V2{k:Int}(c:1<=k)(h4:k<=4){s t:List UInt8}{l:List Atr}(a:(kI s).2=0)(b:k=4->(kI t).2=0):
  Fd (CE k s t l)=some ⟨k,(kI s).1,if k=4 then(kI t).1 else[],if k=2 then[]else l⟩:=by
 have d:=UK c h4;have:k=1\/k=2\/k=3\/k=4:=aeu;rcases this with rfl|rfl|rfl|rfl;simp[Fd,CE,Nd.kids,Nd.tag,Nd.data,bA,Ov,a,qh,b8];simp[Fd,CE,Nd.kids,Nd.tag,Nd.data,bA,Ov,a,qh,b8];simp[Fd,CE,Nd.kids,Nd.tag,Nd.data,bA,Ov,a,qh,b8];simp[Fd,CE,Nd.kids,Nd.tag,Nd.data,bA,Ov,a,b rfl,qh,b8]
theorem Ha:∀(l:List Nd){r:List Atr},J4 l=some r->xE l=some r
 |[],r,h=>h
 | a::l,r,h=>by
   rw[J4]at h;split at h
   .cases h
   rename_i x b;rw[abZ]at h;obtain⟨e,d,rfl⟩:=h;unfold Tq at b;split at b
   .cases b
   rename_i c;split at b
   .cases b;rw[xE,if_neg (by simp only[not_or]at c;exact c.2.1),Ha l d];rfl
   .cases b
theorem V1{n:Nd}{u:Upd}(h:Fd n=some u):R0 n=some u:=by
 obtain⟨I,H,l⟩:=n;obtain⟨k,g⟩:∃k:Int,(((l.getD 0 bZ).data.getD 0 0).toNat:Int)=k:=⟨_,rfl⟩;unfold Fd at h;simp only[Nd.kids,g]at h;have f:∀{c:Prop} [Decidable c]{x:Option Upd},(if c then none else x)=some u->¬c/\x=some u:=λ{c} _ {x} e=>by by_cases s:c;rw[if_pos s]at e;cases e;rw[if_neg s]at e;exact⟨s,e⟩
 obtain⟨C,h⟩:=f h;obtain⟨D,h⟩:=f h;obtain⟨m,h⟩:=f h;obtain⟨B,h⟩:=f h;simp only[not_or]at C D m;obtain⟨_,E,_,p⟩:=C;obtain⟨G,F,j⟩:=D;have i:R8 (l.getD 0 bZ).data=some k:=by
  have hd:(l.getD 0 bZ).data=[b8 k.toNat]:=by rcases hdd:(l.getD 0 bZ).data with _|⟨c,_|⟨J,r⟩⟩;rw[hdd]at p;simp at p;rw[hdd]at g;simp at g;rw[<- g];simp[b8];rw[hdd]at p;simp at p
  rw[hd];exact UD aeu aeu
 have q:l.length=1+(if k=4 then 2 else 1)+(if k=2 then 0 else 1):=by simpa using j
 have v:l.length<=4:=by rw[q];split<;>split<;>omega
 unfold R0;simp only[Nd.kids,i];rw[if_neg aeu];clear i g p E j;by_cases t:k=4;subst t;have y:l.length=4:=by rw[q];decide
 obtain⟨a,b,c,d,rfl⟩:∃a b c d,l=[a,b,c,d]:=by
  match l,y with
  |[a,b,c,d],_=>exact⟨a,b,c,d,rfl⟩
 rw[if_neg (by decide)]at h;obtain⟨_,h⟩:=f h;clear f;rw[abZ]at h;obtain⟨r,o,rfl⟩:=h;simp at o m B⊢;simp[m.1,B.1,Ha _ o];by_cases w:k=2;subst w;have z:l.length=2:=by rw[q];decide
 rw[if_pos rfl]at h;cases h;obtain⟨a,b,rfl⟩:∃a b,l=[a,b]:=by
  match l,z with
  |[a,b],_=>exact⟨a,b,rfl⟩
 simp at m;simp[m.1];have A:l.length=3:=by rw[q,if_neg t,if_neg w]
 obtain⟨a,b,c,rfl⟩:∃a b c,l=[a,b,c]:=by
  match l,A with
  |[a,b,c],_=>exact⟨a,b,c,rfl⟩
 rw[if_neg w]at h;obtain⟨_,h⟩:=f h;clear f;rw[abZ]at h;obtain⟨r,o,rfl⟩:=h;simp at o m;simp[t,m.1,Ha _ o]
theorem Up{n:Nd}{u:Upd}(h:Fd n=some u):kX u=u:=by
 obtain⟨k,d⟩:∃k:Int,(((n.kids.getD 0 bZ).data.getD 0 0).toNat:Int)=k:=⟨_,rfl⟩;unfold Fd at h;simp only[d]at h;have a:∀{c:Prop} [Decidable c]{x:Option Upd},(if c then none else x)=some u->x=some u:=λ{c} _ {x} e=>by by_cases g:c;rw[if_pos g]at e;cases e;rw[if_neg g]at e;exact e
 have h:=a (a (a (a h)));by_cases b:k=2;rw[if_pos b]at h;cases h;simp[kX,b];rw[if_neg b]at h;have h:=a h;rw[abZ]at h;obtain⟨r,i,rfl⟩:=h;by_cases f:k=4;simp[kX,f];simp[kX,f,b]
def vf(u:Upd):Prop:=u.attrs.length<=1100000/\∀a∈u.attrs,(a.1.length:Int)<=140737488351232/\a.2.length<=1100000/\∀v∈a.2,(v.length:Int)<=140737488351232
theorem Wm{a:Atr}(d:(a.1.length:Int)<=140737488351232)(e:a.2.length<=1100000)(f:∀v∈a.2,(v.length:Int)<=140737488351232):okN 2 (Fa a):=by refine .inr ⟨.inl rfl,rfl,aev,λk b=>?_⟩;simp only[abY,acF,or_false]at b;rcases b with rfl|rfl;exact EN d 1;refine .inr ⟨.inr rfl,rfl,by simpa using e,λk b=>?_⟩;obtain⟨v,c,rfl⟩:=abB.1 b;exact EN (f v c) 0
theorem ZU{l:List Atr}(c:l.length<=1100000)(h:∀a∈l,(a.1.length:Int)<=140737488351232/\a.2.length<=1100000/\∀v∈a.2,(v.length:Int)<=140737488351232):okN 3 (Ov l):=by refine .inr ⟨.inl rfl,rfl,by simpa using c,λk e=>?_⟩;obtain⟨a,d,rfl⟩:=abB.1 e;obtain⟨f,b,g⟩:=h a d;exact Wm f b g
theorem Wl{k:Int}{s t:List UInt8}{l:List Atr}(c:(s.length:Int)<=140737488351232)(e:(t.length:Int)<=140737488351232)(d:l.length<=1100000)(h:∀a∈l,(a.1.length:Int)<=140737488351232/\a.2.length<=1100000/\∀v∈a.2,(v.length:Int)<=140737488351232):okN 4 (CE k s t l):=by refine .inr ⟨.inl rfl,rfl,?_,λx b=>?_⟩;simp only[abP,abU,ack];split<;>split<;>simp;rcases abD.1 b with b|b;rcases abD.1 b with b|b;simp only[abY,acF,or_false]at b;rcases b with rfl|rfl;exact .inl ⟨.inl rfl,rfl,aev⟩;exact EN c 3;split at b;rw[abV.1 b];exact EN e 3;cases b;split at b;cases b;rw[abV.1 b];exact ZU d h
theorem Vu{u:Upd}(h:(wrU u).2=0):1<=u.kind/\u.kind<=4/\(prS u.dn).2=0/\(u.kind=4->(prS u.tw).2=0)/\wrU u=fc 4 (CE u.kind (prS u.dn).1 (prS u.tw).1 u.attrs):=by unfold wrU at h⊢;split at h;cases h;rename_i c;split at h;rename_i b;exact absurd h b;rename_i b;split at h;rename_i a;exact absurd h a.2;rename_i a;rw[if_neg c,if_neg b,if_neg a];refine⟨aeu,aeu,by simpa using b,λe=>?_,rfl⟩;simp only[not_and]at a;simpa using a e
theorem XP(u:Upd):wrU (kX u)=wrU u:=by
 by_cases h4:u.kind=4;have:kX u=u:=by obtain⟨k,d,t,l⟩:=u;simp only at h4;subst h4;simp[kX]
 rw[this];by_cases a:u.kind=2;simp[wrU,kX,CE,a];simp[wrU,kX,CE,a,h4]
theorem ZA{u:Upd}(a:vf u)(h:(wrU u).2=0):LM (wrU u).1=.ok (CE u.kind (prS u.dn).1 (prS u.tw).1 u.attrs):=by obtain⟨d,h4,hd,b,e⟩:=Vu h;rw[e]at h⊢;have l1:=Mk u.dn;have c:=Mk u.tw;exact XS (Wl aeu aeu a.1 a.2) h aeu
theorem VY{u:Upd}(h:(wrU u).2=0):Fd (CE u.kind (prS u.dn).1 (prS u.tw).1 u.attrs)=some (kX u):=by obtain⟨c,h4,hd,a,e⟩:=Vu h;rw[V2 c h4 (by rw[PE hd]) λe=>by rw[PE (a e)],PE hd];congr 2;split;rename_i b;rw[PE (a b)];rfl
theorem aaG{u:Upd}(b:vf u)(h:(wrU u).2=0):rdU (wrU u).1=(kX u,0):=by have c:=XP u;have a:kX (kX u)=kX u:=Up (VY h);rw[rdU,ZA b h];simp only[V1 (VY h),c];rw[if_neg (by simp[h]),a]
theorem XT{s:List UInt8}{e:Int}(h:LM s=.error e):e≠0:=by unfold LM at h;split at h;rename_i a;cases h;exact Ml _ _ _ a;split at h;cases h;cases h;decide
variable {L:List Blk}{K:abx}
abbrev dnA(d:List Rdn):AV:=.sl (d.map aJ) d.length none
abbrev gp(u:Upd):List AV:=[.int .i64 u.kind,dnA u.dn,dnA u.tw,.sl (cj u.attrs) u.attrs.length none]
def dnB(d:List Rdn):Prop:=d.length<=1100000/\∀r∈d,r.length<=1100000
theorem Pu{u:Upd}(hd:dnB u.dn)(ht:dnB u.tw)(V:vf u)(h:K (RT (wrU u)) L):abw 14 [.agg (gp u)] L K:=by
 obtain⟨k,d,t,l⟩:=u;simp only[gp]at hd ht V⊢;unfold wrU RT at h;simp only at h;by_cases Q:k<1\/4<k;rw[if_pos Q]at h;replace h:=hid h;obtain⟨b,hb⟩:=abr (decide (k<1\/(4:Int)<k));have ap:b=true:=by rw[<- hb,decide_eq_true_iff];omega
 subst ap;clear hd ht V;refine aa uY (by simp[iw]) ?_;simp only[iw,am];by_cases h1:k<1;clear Q hb;refine wk ?_;exact ae rfl h.o;have h2:4<k:=aeu;clear Q hb;refine wk ?_;exact ae rfl h.o;rw[if_neg Q]at h;have g1:¬k<1:=aeu;have g2:¬4<k:=aeu;have al:Sl k=[b8 k.toNat]:=UQ aeu aeu;obtain⟨c,hc⟩:=abr (b8 k.toNat);have kk1:Hid (Ctr Tryz.prog 39 [.int .i64 k] (.str [c])):=@hid _ (by intro L K q;exact Sm aeu aeu (by rw[al,hc];exact q));have kk2:Hid (Ctr Tryz.prog 38 [.int .i64 2,.str [c]] (.agg [.int .i64 2,.str [c],.sl [] 0 none])):=@hid _ (by intro L K q;exact Wu (by rw[bP];exact q));clear Q;refine aa uY (by simp[iw]) ?_;simp only[iw,am]
 iterate 21 first
  |refine kY ?_
  | (first|refine jz aew ?_|refine fM aew ?_|refine fP ?_|refine zT ?_|refine nD (fun _=>?_)|refine dP ?_|refine jB ?_|refine kk1.o ?_|refine kk2.o ?_|refine dr (kk1.o ⟨rfl,rfl⟩) (kk1.o ⟨rfl,rfl⟩) ?_|refine dr (kk2.o ⟨rfl,rfl⟩) (kk2.o ⟨rfl,rfl⟩) ?_|refine bp (kk1.o ⟨rfl,rfl⟩) ?_|refine bp (kk2.o ⟨rfl,rfl⟩) ?_)
    simp(config:={maxSteps:=2000000}) only[Kon,push_cast,reduceIte,Nat.reduceEqDiff,Nat.reduceAdd,Nat.reduceMul,Nat.reduceSub,Nat.reduceLT,Nat.reduceLeDiff,Int.reduceLT,Int.reduceLE,Int.reduceAdd,Int.reduceSub,Int.reduceNeg,Int.reduceToNat,Int.reduceEq,reduceCtorEq, *]
  | (first|refine jv aew ?_|refine iN ?_|refine fO ?_|refine jA ?_|refine nI (dO ?_))
    simp only[push_cast,reduceIte,Nat.reduceEqDiff,Nat.reduceAdd,Nat.reduceMul,Nat.reduceSub,Nat.reduceLT,Nat.reduceLeDiff,Int.reduceLT,Int.reduceLE,Int.reduceAdd,Int.reduceSub,Int.reduceNeg,Int.reduceToNat,Int.reduceEq,reduceCtorEq, *]
  |exact nE
  |first|apply nF|apply jw|apply nG|apply jx|apply nH|apply jy
  |refine fS ?_
  |refine fN ?_
  |first|refine fQ rfl ?_|refine fR rfl ?_|refine cE rfl ?_ ?_|refine iD rfl (λ_=>?_) (λ_=>?_)|refine iC rfl (λ_=>?_) (λ_=>?_)
  |((first|refine cD (λ_=>?_) (λ_=>?_)|refine dN (λ_=>?_) (λ_=>?_))<;>try simp(config:={maxSteps:=2000000}) only[Kon,push_cast,reduceIte,Nat.reduceEqDiff,Nat.reduceAdd,Nat.reduceMul,Nat.reduceSub,Nat.reduceLT,Nat.reduceLeDiff,Int.reduceLT,Int.reduceLE,Int.reduceAdd,Int.reduceSub,Int.reduceNeg,Int.reduceToNat,Int.reduceEq,reduceCtorEq, *])
  |refine And.intro trivial ?_
  |refine And.intro aeu ?_
  |refine eQ rfl (λ_=>?_) (λ_=>?_)
  |refine And.intro ?_ ?_
 obtain⟨f,r⟩:∃f,f=if k=4 then[d,t]else[d]:=⟨_,rfl⟩
 refine Mx (λT2 L2=>∃X,T2=[(5,.sl (f.map dnA) f.length none),(4,.sl [.int .i64 2,.str [c],.sl [] 0 none] 1 (some 1)),(1,.ptr L.length 0)]/\L2=L++(.cells [.int .i64 k,dnA d,dnA t,.sl (cj l) l.length none]::X)) ?_ ?_
 .by_cases h4:k=4
  .subst h4;rw[if_pos rfl]at r;subst r;have e1:=cF t;clear kk1 kk2 hd ht V h;refine wk ?_;exact ym [(5,.sl (List.map dnA [d,t]) 2 none),(4,.sl [.int .i64 2,.str [c],.sl [] 0 none] 1 (some 1)),(1,.ptr L.length 0)] _ (EI (yk rfl (by simp only[AV.frz,AV.frzL,cF,abO,acw]) (by repeat' first|exact EE|refine j7 rfl rfl ?_)) aev) ⟨_,rfl,rfl⟩
  .rw[if_neg h4]at r;subst r;clear kk1 kk2 hd ht V h;refine wk ?_;exact ym [(5,.sl (List.map dnA [d]) 1 none),(4,.sl [.int .i64 2,.str [c],.sl [] 0 none] 1 (some 1)),(1,.ptr L.length 0)] _ (EI (yk rfl (by simp only[AV.frz,AV.frzL,cF,abO,acw]) (by repeat' first|exact EE|refine j7 rfl rfl ?_)) aev) ⟨_,rfl,rfl⟩
 rintro _ _ ⟨X,rfl,rfl⟩ -;have a4:f.length<=2:=by rw[r];split<;>simp
 have P:∀x∈f,dnB x:=λx y=>by rw[r]at y;split at y;simp at y;rcases y with rfl|rfl<;>assumption;simp at y;subst y;assumption
 obtain⟨R,F⟩:=abr ((if(prS d).2≠0 then([],(prS d).2)else if k=4/\(prS t).2≠0 then([],(prS t).2)else fc 4 (CE k (prS d).1 (prS t).1 l)));rw[F]at h;have g:∀i,i<f.length->(∀j,j<i->(prS (f.getD j [])).2=0)->(prS (f.getD i [])).2≠0->R=([],(prS (f.getD i [])).2):=λi hi w N=>by rw[<- F];rw[r]at hi w N⊢;by_cases h4:k=4;rw[if_pos h4]at hi w N⊢;rcases i with _|_|i;have I:(prS d).2≠0:=N;rw[if_pos I];rfl;have I:(prS t).2≠0:=N;rw[if_neg (by simpa using w 0 aeu),if_pos ⟨h4,I⟩];rfl;simp at hi;omega;rw[if_neg h4]at hi w N⊢;rcases i with _|i;have I:(prS d).2≠0:=N;rw[if_pos I];rfl;simp at hi
 have z:(∀j,j<f.length->(prS (f.getD j [])).2=0)->R=fc 4 (CE k (prS d).1 (prS t).1 l):=λw=>by rw[<- F];rw[r]at w;by_cases h4:k=4;rw[if_pos h4]at w;rw[if_neg (by simpa using w 0 aev),if_neg (λe=>e.2 (by simpa using w 1 aev))];rw[if_neg h4]at w;rw[if_neg (by simpa using w 0 aev),if_neg (λe=>h4 e.1)]
 have U:CE k (prS d).1 (prS t).1 l=.mk 48 [] ((.mk 2 [c] []::f.map λx=>bA (prS x).1)++if k=2 then[]else[Ov l]):=by rw[r,CE,hc];by_cases h4:k=4;rw[if_pos h4,if_pos h4];rfl;rw[if_neg h4,if_neg h4];rfl
 have T:okN 4 (CE k (prS d).1 (prS t).1 l):=Wl (by have:=Mk d;omega) (by have:=Mk t;omega) V.1 V.2;rw[U]at z T;replace g:=hid g;replace z:=hid z;replace T:=hid T;replace P:=hid P;replace h:=hid h;clear U F hd ht r al hc kk1 kk2;refine wk ?_;refine XF 4 3 (X.length+1) (L:=L) (X:=.cells [.int .i64 k,dnA d,dnA t,.sl (cj l) l.length none]::X) (l:=[.int .i64 2,.str [c],.sl [] 0 none]) (n:=1) aev rfl rfl ?_;refine ar (λm T' L'=>∃(i:Nat) (C:List AV),m=f.length-i/\i<=f.length/\Hid (∀j,j<i->(prS (f.getD j [])).2=0)/\Hid (C=aC (.mk 2 [c] []::(f.take i).map λx=>bA (prS x).1))/\T'=[(37,.int .i64 (i:Int)),(36,.int .i64 f.length),(35,.sl (f.map dnA) f.length none),(4,.gsl C (i+1) (L.length+(X.length+1)) 3),(1,.ptr L.length 0)]/\L'=L++(.cells [.int .i64 k,dnA d,dnA t,.sl (cj l) l.length none]::(X++[.spare (i+1) 3]))) aex ⟨0,_,rfl,abJ _,hid aev,hid rfl,rfl,aev⟩ ?_;rintro _ _ _ ⟨i,C,rfl,hi,w,hC,rfl,rfl⟩;by_cases A:i<f.length;have g3:(i:Int)<(f.length:Int):=aeu;have w2:=abu i aeu;obtain⟨x,y⟩:=abr (f.getD i []);have O:x∈f:=by rw[<- y];simp[A]
 have e2:(f.map dnA).getD i .undef=dnA x:=by rw[<- y];simp[A]
 have e3:i<(f.map dnA).length:=by simpa using A
 obtain⟨⟨s,e⟩,p⟩:∃q,prS x=q:=⟨_,rfl⟩;have kk1:Hid (Ctr Tryz.prog 35 [dnA x] (.tup [.str s,.int .i64 e])):=@hid _ (by intro L K q;refine xK (P.o x O).1 (P.o x O).2 ?_;rw[p];exact q)
 by_cases N:e=0;subst N;have kk2:Hid (Ctr Tryz.prog 40 [.str s] (.agg [.int .i64 4,.str s,.sl [] 0 none])):=@hid _ (by intro L K q;exact RP (by rw[bA,bP];exact q));have W:∀j,j<i+1->(prS (f.getD j [])).2=0:=λj a0=>by rcases ab5 j i with h1|h1;exact w.o j h1;have:j=i:=aeu;subst this;rw[y,p]
 have Z:aC (.mk 2 [c] []::(f.take (i+1)).map λx=>bA (prS x).1)=C++[.int .i64 4,.str s,.sl [] 0 none]:=by rw[hC.o,ab6 A,show f[i]=x by rw[<- y];simp[A],abS,<- acp,rQ];simp only[abO,acw,p,aC,bA,bP,ab1];rfl
 replace Z:=hid Z;replace W:=hid W;clear p O y w hC g z T;refine wk ?_;exact aez aeu aex ⟨i+1,_,rfl,A,W,hid Z.o.symm,rfl,rfl⟩;have G:=h.o;rw[g.o i A w.o (by rw[y,p];exact N),y,p]at G;replace G:=hid G;clear p O y w hC g z T;refine wk ?_;exact ae rfl G.o;have av:i=f.length:=aeu;subst av;have g3:¬(f.length:Int)<(f.length:Int):=aeu;have F:=z.o w.o;have Y:=hC.o;rw[abX]at Y;obtain⟨H,B⟩:=abr ((Nd.mk 2 [c] []::f.map λx=>bA (prS x).1));have E:H.length=f.length+1:=by rw[<- B];simp
 have v:=T.o;rw[B]at F Y v;obtain⟨⟨s,e⟩,p⟩:∃q,R=q:=⟨_,rfl⟩;have G:=h.o;rw[p]at G F;subst Y;have e0:=cS H;have D:∀{h n:Nat}{m:List Nd}(ad:m.length=n) (an:m.length<=1100000) (ho:∀x∈m,okN h x){i:Nat}{L:List Blk}{K:abx},K (.agg [.int .i64 48,.str [],.sl (aC m) n none]) L->abw 43 [.int .i64 48,.gsl (aC m) n i 3] L K:=by intro h n m ad an ho i L K q;subst ad;exact dQ (by simpa only[AV.frzL,AV.frz,cS]using Tl (h:=h) (cap:=none) an ho (by rw[bP];exact q))
 by_cases h2:k=2;rw[if_pos h2,ab1]at v F;have kk1:Hid (∀{i:Nat}{L:List Blk}{K:abx},K (.agg [.int .i64 48,.str [],.sl (aC H) (f.length+1) none]) L->abw 43 [.int .i64 48,.gsl (aC H) (f.length+1) i 3] L K):=@hid _ (by intro i L K q;refine D (h:=3) E aeu (λn hn=>?_) q;rcases v with⟨ho,_⟩|⟨_,_,_,Q⟩;omega;exact Q n hn)
 have kk2:Hid (Ctr Tryz.prog 45 [.agg [.int .i64 48,.str [],.sl (aC H) (f.length+1) none]] (.tup [.str s,.int .i64 e])):=@hid _ (by intro L K q;have:=@Zq _ v L K;rw[bP,<- F,E]at this;exact this q)
 replace G:=hid G;subst h2;clear F hC w g z T p B v D;refine wk ?_;exact ae rfl G.o;rw[if_neg h2]at v F;obtain⟨M,J⟩:=abr (aC (l.map Fa));obtain⟨ai,S⟩:=V;simp only at ai S;have ab:∀x∈H++[Ov l],okN 3 x:=λn hn=>by rcases v with⟨ho,_⟩|⟨_,_,_,Q⟩;omega;exact Q n hn
 have eL:aC (H++[Ov l])=aC H++[.int .i64 48,.str [],.sl M l.length none]:=by rw[rQ,<- J];simp only[aC,Ov,bP,abM,ab1]
 have kk1:Hid (Ctr Tryz.prog 41 [.sl (cj l) l.length none,.func 42 []] (.sl M l.length none)):=@hid _ (by intro L K q;exact Yp aeu S (by rw[J];exact q))
 have kk2:Hid (Ctr Tryz.prog 43 [.int .i64 48,.sl M l.length none] (.agg [.int .i64 48,.str [],.sl M l.length none])):=@hid _ (by
  intro L K q;have:=@Tl 2 48 (l.map Fa) none (by rw[abM];omega) (λx y=>by obtain⟨a,ha,rfl⟩:=abB.1 y;obtain⟨a1,a2,a3⟩:=S a ha;exact Wm a1 a2 a3) L K
  rw[bP,J,abM]at this;exact this q)
 have kk3:Hid (∀{i:Nat}{L:List Blk}{K:abx},K (.agg [.int .i64 48,.str [],.sl (aC H++[.int .i64 48,.str [],.sl M l.length none]) (f.length+1+1) none]) L->abw 43 [.int .i64 48,.gsl (aC H++[.int .i64 48,.str [],.sl M l.length none]) (f.length+1+1) i 3] L K):=@hid _ (by intro i L K q;rw[<- eL]at q⊢;exact D (h:=3) (by simp[E]) (by simp;omega) ab q)
 have kk4:Hid (Ctr Tryz.prog 45 [.agg [.int .i64 48,.str [],.sl (aC H++[.int .i64 48,.str [],.sl M l.length none]) (f.length+1+1) none]] (.tup [.str s,.int .i64 e])):=@hid _ (by intro L K q;have:=@Zq _ v L K;rw[bP,<- F,eL,abP,E]at this;exact this q)
 have e1:AV.frzL M=M:=by rw[<- J];exact cS _
 replace G:=hid G;clear F hC w g z T p B v D ab ai S J eL;refine wk ?_;exact ae rfl G.o
def Jv:Except Int (Nd×List UInt8)->AV
 |.error e=>.tup [.agg [.int .i64 0,.str [],.sl [] 0 none],.str [],.int .i64 e]
 |.ok (n,r)=>.tup [.agg (ndA n),.str r,.int .i64 0]
def YD(acc:List Nd):Except Int (List Nd)->Except Int (List Nd)
 |.error e=>.error e
 |.ok l=>.ok (acc++l)
theorem TF{p:List UInt8->Except Int (Nd×List UInt8)}{F:Nat}{u:List UInt8}(h:u≠[]):pT p (F+1) u=match p u with
  |.error e=>.error e
  | .ok (n,r)=>match pT p F r with
    |.error e=>.error e
    |.ok l=>.ok (n::l):=by
 rcases u with _|⟨c,v⟩;exact absurd rfl h;rw[pT];rfl;exact h
theorem Zo:∀x:_root_.Fin 256,IntKind.u8.wrap ((BitVec.ofInt IntKind.u8.bits (x.val:Int) &&& BitVec.ofInt IntKind.u8.bits 31).toNat:Nat)=((x.val%32:Nat):Int)/\IntKind.u8.wrap ((BitVec.ofInt IntKind.u8.bits (x.val:Int) &&& BitVec.ofInt IntKind.u8.bits 32).toNat:Nat)=((x.val/32%2*32:Nat):Int):=by decide +kernel
theorem MF:∀(f:Nat){s:List UInt8}{b:Int}(Z:s.length<=1100000) (hd:b+f=65) (h1:1<=b){L:List Blk}{K:abx}(h:K (Jv (mU f s)) L),abw 152 [.str s,.int .i64 b] L K
 |0,s,b,Z,hd,h1,L,K,h=>by have e:b=65:=aeu;subst e;replace h:=hid h;refine abv dq ?_;exact aB (ae rfl h.o)
 | f+1,s,b,Z,hd,h1,L,K,h=>by
   have V:∀{Y:List UInt8}(R:Y.length<=1100000){L:List Blk}{K:abx}(h:K (Jv (mU f Y)) L),abw 152 [.str Y,.int .i64 (b+1)] L K:=by intro Y R L K h;exact MF f R aeu aeu h
   replace V:=@hid _ @V;have g1:¬(64:Int)<b:=aeu;have w1:IntKind.i64.wrap (b+1)=b+1:=af aeu aeu;rw[mU]at h;by_cases A:s=[]
   .rw[if_pos A]at h;subst A;replace h:=hid h;refine abv dq ?_;exact aB (ae rfl h.o)
   rw[if_neg A]at h;obtain⟨t,ht⟩:=abr ((s.getD 0 0).toNat);have p:t<256:=(by rw[<- ht];exact(s.getD 0 0).toNat_lt);have an:0<s.length:=acr.2 A;have g2:(0:Int)<(s.length:Int):=aeu;have J:=(Zo ⟨t,p⟩).1;have N:=(Zo ⟨t,p⟩).2;simp only[ht]at h J N;obtain⟨y,hy⟩:∃y:Int,((t%32:Nat):Int)=y:=⟨_,rfl⟩;obtain⟨z,I⟩:∃z:Int,((t/32%2*32:Nat):Int)=z:=⟨_,rfl⟩;rw[hy]at J;rw[I]at N;have wt:IntKind.i64.wrap (t:Int)=(t:Int):=af aeu aeu;by_cases x:t%32=31
   .rw[if_pos x]at h;replace h:=hid h;have ai:y=31:=aeu;subst ai;clear x I hy;refine abv dq ?_;exact aB (ae rfl h.o)
   rw[if_neg x]at h;have g3:¬y=31:=aeu;clear x hy;rcases hbn:Kw s with e|⟨size,a⟩
   .rw[hbn]at h;simp only at h;replace h:=hid h;have P:=TT hbn;have kk1:Hid (Ctr Tryz.prog 181 [.str s] (.tup [.int .i64 0,.int .i64 0,.int .i64 e])):=@hid _ (by intro L K q;exact Rr Z (by rw[hbn];exact q));clear hbn I;refine abv dq ?_;exact aB (ae rfl h.o)
   obtain⟨b2,b6,b7,b8⟩:=TU hbn;have kk1:Hid (Ctr Tryz.prog 181 [.str s] (.tup [.int .i64 (size:Int),.int .i64 (a:Int),.int .i64 0])):=@hid _ (by intro L K q;exact Rr Z (by rw[hbn];exact q));rw[hbn]at h;simp only at h;clear hbn;have w2:IntKind.i64.wrap ((s.length:Int)-(a:Int))=(s.length:Int)-(a:Int):=af aeu aeu;have w3:IntKind.i64.wrap ((a:Int)+(size:Int))=(a:Int)+(size:Int):=af aeu aeu;by_cases w:s.length<a+size
   .rw[if_pos w]at h;replace h:=hid h;have g4:(s.length:Int)-(a:Int)<(size:Int):=aeu;clear w I;refine abv dq ?_;exact aB (ae rfl h.o)
   rw[if_neg w]at h;have g4:¬(s.length:Int)-(a:Int)<(size:Int):=aeu;have g5:(a:Int)<=(a:Int)+(size:Int):=aeu;have g6:(a:Int)+(size:Int)<=(s.length:Int):=aeu;have e3:((a:Int)+(size:Int)).toNat=a+size:=aeu;have e4:a+size-a=size:=aeu;obtain⟨H,E⟩:=abr ((s.drop a).take size);obtain⟨r,hr⟩:=abr (s.drop (a+size));have ap:H.length=size:=(by rw[<- E];simp;omega);have e5:r.take (s.length-(a+size))=r:=(by rw[<- hr,<- acK,abX]);rw[E,hr]at h;by_cases B:t/32%2=0
   .rw[if_pos B]at h;simp only[Jv,bP]at h;replace h:=hid h;have ad:z=0:=aeu;subst ad;clear B I w;refine abv dq ?_;exact aB (ae rfl h.o)
   rw[if_neg B]at h;have al:z=32:=aeu;subst al;obtain⟨M,U⟩:=abr (pT (mU f) size H);rw[U]at h;have j:∀e,M=.error e->K (.tup [.agg [.int .i64 0,.str [],.sl [] 0 none],.str [],.int .i64 e]) L:=λe P=>by rw[P]at h;exact h
   have g:∀W,M=.ok W->K (.tup [.agg [.int .i64 (t:Int),.str [],.sl (aC W) W.length none],.str r,.int .i64 0]) L:=λW P=>by rw[P]at h;simp only[Jv,bP]at h;exact h
   replace j:=hid j;replace g:=hid g;have av:size<=1100000:=aeu;clear B I w h;refine abv dq ?_;refine JX (L.length+1) 2 3 (c:=[.int .i64 (t:Int),.str [],.sl [] 0 (some 0)]) (l:=[]) (n:=0) aev rfl (acg 3).symm ?_;refine ar (λm T' L'=>∃(i:List Nd) (F k:Nat) (u:List UInt8) (C:List AV) (X:List Blk),m=u.length/\u.length<=F/\u.length+k<=size/\Hid (YD i (pT (mU f) F u)=M)/\Hid (C=aC i/\k=i.length)/\T'=[(11,.str u),(10,.ptr (L.length+1) 0),(8,.int .i64 (a:Int)),(7,.int .i64 (size:Int)),(4,.ptr L.length 0),(0,.str s),(1,.int .i64 b)]/\L'=L++(.cells [.int .i64 0,.str [],.sl [] 0 (some 0)] :: .cells [.int .i64 (t:Int),.str [],.gsl C k (L.length+2) 3] :: .spare k 3::X)) aey ⟨[],size,0,H,[],[],rfl,aeu,aeu,hid (by rw[U];cases M<;>rfl),hid ⟨rfl,rfl⟩,rfl,aev⟩ ?_;rintro _ _ _ ⟨i,F,k,u,C,X,rfl,hF,hk,S,D,rfl,rfl⟩;by_cases hu:u=[]
   .subst hu;have d:=S.o;have O:pT (mU f) F []=.ok []:=(by cases F<;>rfl);rw[O]at d;have T:=g.o i (by rw[<- d];simp[YD]);obtain⟨rfl,rfl⟩:=D.o;have e0:=cS i;replace T:=hid T;clear d O S D g j;refine wk ?_;refine aB ?_;simp only[AV.frz,AV.frzL,e0];exact ae (by simp only[AV.refs,AV.refsL,fW];rfl) T.o
   .have hup:0<u.length:=acr.2 hu;obtain⟨Q,rfl⟩:∃Q,F=Q+1:=⟨F-1,aeu⟩;have d:=S.o;rw[TF hu]at d;rcases hpu:mU f u with e|⟨n,v⟩
    .rw[hpu]at d;have T:=hid (j.o e (by rw[<- d];rfl));have P:=Ml f u e hpu;have kk1:Hid (Ctr Tryz.prog 152 [.str u,.int .i64 (b+1)] (.tup [.agg [.int .i64 0,.str [],.sl [] 0 none],.str [],.int .i64 e])):=@hid _ (by intro L K q;refine V.o aeu ?_;rw[hpu];exact q)
     clear S d j g hpu U;refine wk ?_;exact aB (ae rfl T.o)
    .rw[hpu]at d;simp only at d;have ab:=Wf hpu;have kk1:Hid (Ctr Tryz.prog 152 [.str u,.int .i64 (b+1)] (.tup [.agg [.int .i64 n.tag,.str n.data,.sl (aC n.kids) n.kids.length none],.str v,.int .i64 0])):=@hid _ (by intro L K q;refine V.o aeu ?_;rw[hpu,Jv,dM];exact q)
     have G:YD (i++[n]) (pT (mU f) Q v)=M:=by rw[<- d];cases pT (mU f) Q v<;>simp[YD]
     have e0:=cS n.kids;replace G:=hid G;clear S d j g hpu U;refine wk ?_;exact aez ab aex ⟨i++[n],Q,k+1,v,C++[.int .i64 n.tag,.str n.data,.sl (aC n.kids) n.kids.length none],_,rfl,aeu,aeu,G,hid ⟨by rw[D.o.1,rQ,aC,dM];rfl,by rw[D.o.2];simp⟩,rfl,rfl⟩
theorem QE{s:List UInt8}(a:s.length<=1100000)(h:K (Jv (mU 64 s)) L):abw 116 [.str s] L K:=by rcases hp:mU 64 s with e|⟨n,r⟩;rw[hp]at h;replace h:=hid h;have kk1:Hid (Ctr Tryz.prog 152 [.str s,.int .i64 1] (.tup [.agg [.int .i64 0,.str [],.sl [] 0 none],.str [],.int .i64 e])):=@hid _ (by intro L K q;exact MF 64 a aeu aeu (by rw[hp];exact q));clear hp;refine abv Ew ?_;exact aB (ae rfl h.o);rw[hp,Jv,dM]at h;replace h:=hid h;have kk1:Hid (Ctr Tryz.prog 152 [.str s,.int .i64 1] (.tup [.agg [.int .i64 n.tag,.str n.data,.sl (aC n.kids) n.kids.length none],.str r,.int .i64 0])):=@hid _ (by intro L K q;exact MF 64 a aeu aeu (by rw[hp,Jv,dM];exact q));clear hp;have b:=cS n.kids;refine abv Ew ?_;refine ae ?_ h.o;simp only[AV.refs,AV.refsL,fW];rfl
def ZB:Except Int Nd->AV
 |.error e=>.tup [.agg [.int .i64 0,.str [],.sl [] 0 none],.int .i64 e]
 |.ok n=>.tup [.agg (ndA n),.int .i64 0]
theorem S9{s:List UInt8}(a:s.length<=1100000)(h:K (ZB (LM s)) L):abw 85 [.str s] L K:=by unfold LM at h;rcases hp:mU 64 s with e|⟨n,r⟩;rw[hp]at h;replace h:=hid h;have c:=Ml _ _ _ hp;have kk1:Hid (Ctr Tryz.prog 116 [.str s] (.tup [.agg [.int .i64 0,.str [],.sl [] 0 none],.str [],.int .i64 e])):=@hid _ (by intro L K q;exact QE a (by rw[hp];exact q));clear hp;refine abv rW ?_;exact aB (ae rfl h.o);rw[hp]at h;simp only at h;have kk1:Hid (Ctr Tryz.prog 116 [.str s] (.tup [.agg [.int .i64 n.tag,.str n.data,.sl (aC n.kids) n.kids.length none],.str r,.int .i64 0])):=@hid _ (by intro L K q;exact QE a (by rw[hp,Jv,dM];exact q));have b:=cS n.kids;by_cases hr:r=[];rw[if_pos hr]at h;rw[ZB,dM]at h;replace h:=hid h;subst hr;clear hp;refine abv rW ?_;refine ae ?_ h.o;simp only[AV.refs,AV.refsL,fW];rfl;rw[if_neg hr]at h;replace h:=hid h;clear hp;refine abv rW ?_;exact aB (ae rfl h.o)
end Go.Proofs.YtajkbcmleihaoaaGreatDoor.Av
namespace Go.Proofs
open Go.Shelf
def Tryz.growD_ren:Go.Shelf.Ren:=⟨λ|4=>108|n=>n,λ|22=>24|25=>74|3=>3|4=>4|9=>9|20=>20|0=>0|n=>n,λ|n=>n⟩
theorem Tryz.growD:Go.Proofs.Lays8.n4 Tryz.prog Tryz.growD_ren:={
 mixed:=by kernel_rfl
 f4:=⟨Tryz.f108.name,by decide,Tryz.func108.trans (congrArg some (by kernel_rfl))⟩
 t0:=Tryz.underlying0
 a0:=Tryz.isAgg0
 z0:=Tryz.sizeOf0
 v0:=Tryz.zeroValue0
 t3:=Tryz.underlying3
 a3:=Tryz.isAgg3
 z3:=Tryz.sizeOf3
 v3:=Tryz.zeroValue3
 t4:=Tryz.underlying4
 a4:=Tryz.isAgg4
 z4:=Tryz.sizeOf4
 v4:=Tryz.zeroValue4
 t9:=Tryz.underlying9
 a9:=Tryz.isAgg9
 z9:=Tryz.sizeOf9
 v9:=Tryz.zeroValue9
 t20:=Tryz.underlying20
 a20:=Tryz.isAgg20
 z20:=Tryz.sizeOf20
 v20:=Tryz.zeroValue20
 t22:=Tryz.underlying24
 a22:=Tryz.isAgg24
 z22:=Tryz.sizeOf24
 v22:=Tryz.zeroValue24}
end Go.Proofs
set_option maxRecDepth 100000
namespace Go.Proofs.YtajkbcmleihaoaaGreatDoor.Av
open Go
variable {n:Nd}{s:List UInt8}
def zo:LSO:=[A3 1 0,Bo 2]
def zn:LSO:=[Ad 6 0 1,Ac 7 1 6,Ax 8 7 4]
def zm:LSO:=[Ad 9 2 1,o0 (.store 1 (tm 9) (.av (.sl [] 0 (some 0))))]
def zl:LSO:=[Ad 10 0 1,Ac 11 1 10,Az 12 11 2]
def zk:LSO:=[Ad 13 3 1,o0 (.store 1 (tm 13) (.av (.sl [] 0 (some 0))))]
def zj:List (aj×Kd):=
 [Ap 14 0 1,Aq 15 1 14 0 1,Ap 16 1 1,Aq 17 1 16 0 1,od 18 (.call 50 [(tm 17),(.av (.sl [] 0 (some 0)))]) (.read 0 1),Ap 19 2 1,Aq 20 1 19 0 1,
 od 21 (.call 50 [(tm 20),(.av (.sl [] 0 (some 0)))]) (.read 0 1),
 od 22 (.build [(.int .i64 0),(.sl [] 0 (some 0)),(.sl [] 0 (some 0)),(.sl [] 0 (some 0))] [(0,(1,(tm 15))),(1,(1,(tm 18))),(2,(1,(tm 21)))]) .pure,
 od 3 (.alloc [(.int .i64 0),(.sl [] 0 (some 0)),(.sl [] 0 (some 0)),(.sl [] 0 (some 0))]) .eff]
def wq:List aj :=
 [⟨none,(.store 4 (tm 3) (tm 22)),none⟩]
def zi:LSO:=[Ad 23 3 1,Ac 24 1 23,Ah 25 24,Ab 26 0]
def zh:LSO:=[Au 27 26 25]
def zg:LSO:=[Aw 28 2 24 26,A0 29 2 28,BD 5,Ag 2 5 29]
def zf:List (aj×Kd):=
 [Ap 30 3 3,Aq 31 1 30 0 1,Ap 32 0 5,Aq 33 1 32 0 1,Ap 34 1 5,Aq 35 1 34 0 0,od 36 (.app 0 1 16 [(.str [])] (.av (.sl [] 0 (some 0))) (tm 35)) .eff,
 od 37 (.build [(.str []),(.sl [] 0 (some 0))] [(0,(1,(tm 33))),(1,(1,(tm 36)))]) .pure,od 38 (.bslice false 2 1 [(.str []),(.sl [] 0 (some 0))] [(0,(2,(tm 37)))]) (.read 0 0)]
def wo:List aj :=
 [⟨(some 39),(.app 1 2 40 [(.str []),(.sl [] 0 (some 0))] (tm 31) (tm 38)),none⟩,⟨(some 40),(.faddr 3 (tm 3)),none⟩,⟨none,(.store 1 (tm 40) (tm 39)),none⟩]
def wv:LSO:=[Aj 41 26 1,Aa 26 41]
def wu:LSO:=[A0 42 4 3,Ag 4 2 42]
def vl:aI:=⟨43,(aen zo [] (.seq (aen zn BV (aeo 8 (.sreg zm [false]) .skip)) (.seq (aen zl BV (aeo 12 (.sreg zk [false]) .skip)) (.seq (.dregM zj wq Cc) (.seq (aen zi Cf (aeq 0 (aen zh [] (.seq (aer 27 0) (.seq (.block 1 (aen zg BV (.dregM zf wo CA))) (.sreg wv BU)))))) (aen wu [false] .ret)))))),[(.cell true 4 2)]⟩
attribute [push_cast] zo zn zm zl zk zj wq zi zh zg zf wo wv wu
theorem Kp:aM Tryz.prog (λr i=>if r=9/\i=6 then 0 else 1) 87=some vl.raw:=aew
def yV:LSO:=[Bo 2,Ab 3 0]
def yU:LSO:=[Aa 11 0,Af 12 85 11,Aa 10 12,Al 13 10,Am 14 10,AD 4,Ag 3 4 13,Aa 5 14]
def yT:LSO:=[Aa 15 5,Ax 16 15 0]
def yS:LSO:=[AY 17,Aa 18 5,Ag 4 2 17,Aa 3 18]
def yR:LSO:=[A0 20 3 4,Af 21 86 20,Aa 19 21,Al 22 19,Am 23 19,Bo 6,Ag 4 6 22,Aa 7 23]
def yQ:LSO:=[Aa 24 7,A5 25 24]
def yP:LSO:=[AY 26,Ag 4 2 26,Ab 3 4]
def yO:LSO:=[A0 28 4 6,Af 29 14 28,Aa 27 29,Al 30 27,Am 31 27,Aa 8 30,Aa 9 31]
def yN:LSO:=[Aa 32 9,Ax 33 32 0,Aa 34 33,.grp none 34 false
 [Ai 35 34 8,Ai 36 34 0,B4 37 34 35 36]
 38 (tm 37)]
def yM:LSO:=[AY 39,Ag 4 2 39,Ab 3 4]
def wn:LSO:=[A0 40 4 6,Af 41 87 40,Ag 4 2 41,Ab 3 0]
def bE:aI:=⟨42,(aen yV [] (aen yU Cd (.seq (aen yT BU (aep 16 (.sreg yS BV))) (aen yR Cd (.seq (aen yQ BU (aep 25 (.sreg yP BU))) (.seq (aen yO Cd (aen yN BW (aep 38 (.sreg yM BU)))) (aen wn BV .ret))))))),[(.cell true 4 2),(.tmp 3)]⟩
attribute [push_cast] yV yU yT yS yR yQ yP yO yN yM wn
theorem fh:aes 58=aet bE:=aew
def yL:LSO:=[A3 1 0,Bo 2,As 3]
def yK:LSO:=[Ad 18 2 1,Ac 19 1 18,Aa 4 19]
def yJ:LSO:=[Aa 20 4,Ah 21 20,AF 22 21 2,Aa 23 22,.grp none 23 false
 [Ai 24 23 4,AS 25 23 24,AI 26 23 25 4]
 27 (tm 26)]
def yI:LSO:=[AY 28,Ag 4 2 28,As 3]
def yH:LSO:=[Aa 30 4,Bw 31 3 30 0,Ad 32 1 31,Ac 33 1 32,Af 34 117 33,Aa 29 34,Al 35 29,Am 36 29,Aa 5 35,Aa 6 36]
def yG:LSO:=[Aa 37 6,A5 38 37]
def yF:LSO:=[AY 39,Ag 4 2 39,As 3]
def yE:LSO:=[Aa 40 5,o1 41 (.build [(.int .i64 0),(.sl [] 0 (some 0)),(.sl [] 0 (some 0)),(.sl [] 0 (some 0))] [(0,(1,(tm 40)))]),Bo 7,Ag 4 7 41]
def yD:LSO:=[Ab 8 0,Ab 9 0]
def yC:LSO:=[Aa 43 4,Bw 44 3 43 1,Ad 45 1 44,Ac 46 1 45,Af 47 118 46,Aa 42 47,Al 48 42,Am 49 42,Ad 50 1 7,Ag 1 50 48,Aa 8 49]
def v8:LSO:=[Aa 51 4,o1 52 (.slV 3 (tm 51) (some (iv 2)) none none),Aa 10 52]
def v7:LSO:=[Ad 53 0 7,Ac 54 1 53,Az 55 54 4,Aa 56 55,.grp none 56 true
 [Ak 57 56 10,Bj 58 56 57,og 59 56 true (.bin .gtr (tm 58) (iv 0))]
 60 (tm 59)]
def v6:LSO:=[Aa 62 10,Bw 63 3 62 0,Ad 64 1 63,Ac 65 1 64,Af 66 118 65,Aa 61 66,Al 67 61,Am 68 61,Ad 69 2 7,Ag 1 69 67,Aa 9 68]
def vZ:LSO:=[Aa 70 10,o1 71 (.slV 3 (tm 70) (some (iv 1)) none none),Aa 10 71]
def vY:LSO:=[Aa 72 8,Ax 73 72 0,Aa 74 73,.grp none 74 false
 [Ai 75 74 9,og 76 74 false (.bin .neq (tm 75) (iv 0))]
 77 (tm 76),Aa 78 77,.grp none 78 false
 [Ai 79 78 10,AS 80 78 79,AI 81 78 80 1]
 82 (tm 81)]
def vX:LSO:=[AY 83,Ag 4 2 83,As 3]
def vW:LSO:=[Aa 84 10,Ah 85 84,Ab 86 0]
def vV:LSO:=[Au 87 86 85]
def vU:LSO:=[Aw 88 3 84 86,A0 89 3 88,AD 12,Ag 3 12 89]
def vT:LSO:=[Ad 90 2 12,Ac 91 1 90,Ah 92 91,Ab 93 0]
def vS:LSO:=[Au 94 93 92]
def vR:LSO:=[Aw 95 3 91 93,A0 96 3 95,AD 14,Ag 3 14 96]
def vQ:LSO:=[Ad 97 2 14,Ac 98 1 97,Ah 99 98,Ax 100 99 2]
def vP:LSO:=[AY 101,Ag 4 2 101,As 3]
def vO:LSO:=[Ad 102 2 14,Ac 103 1 102,Bw 104 3 103 0,Ad 105 1 104,Ac 106 1 105,o1 107 (.build [(.str []),(.sl [] 0 (some 0))] [(0,(1,(tm 106)))]),BD 15,Ag 2 15 107]
def vN:LSO:=[Ad 108 2 14,Ac 109 1 108,Bw 110 3 109 1,Ad 111 2 110,Ac 112 1 111,Ah 113 112,Ab 114 0]
def vM:LSO:=[Au 115 114 113]
def vL:LSO:=[Aw 116 3 112 114,A0 117 3 116,AD 17,Ag 3 17 117]
def vK:LSO:=[Ad 118 1 15,Ac 119 1 118,Ad 120 1 17,Ac 121 1 120,AK 122 121,Bc 123 119 122,Ad 124 1 15,Ag 1 124 123]
def vJ:LSO:=[Aj 125 114 1,Aa 114 125]
def vI:LSO:=[Ad 126 3 7,Ac 127 1 126,A0 128 2 15,o1 129 (.bslice false 2 1 [(.str []),(.sl [] 0 (some 0))] [(0,(2,(tm 128)))]),
 o1 130 (.app 1 2 40 [(.str []),(.sl [] 0 (some 0))] (tm 127) (tm 129)),Ad 131 3 7,Ag 1 131 130]
def vH:LSO:=[Aj 132 93 1,Aa 93 132]
def vG:LSO:=[Aj 133 86 1,Aa 86 133]
def vF:LSO:=[A0 134 4 7,Ag 4 2 134,AJ 3]
def cv:aI:=⟨135,(aen yL [] (aen yK BV (.seq (aen yJ BX (aep 27 (.sreg yI BU))) (aen yH Cm (.seq (aen yG BU (aep 38 (.sreg yF BU))) (aen yE BV (aen yD [] (aen yC Cc (aen v8 BV (.seq (aen v7 BX (aeo 60 (aen v6 Cc (.sreg vZ BV)) .skip)) (.seq (aen vY BZ (aep 82 (.sreg vX BU))) (.seq (aen vW [] (aeq 0 (aen vV [] (.seq (aer 87 0) (.seq (.block 1 (aen vU BV (aen vT Cf (aeq 2 (aen vS [] (.seq (aer 94 2) (.seq (.block 3 (aen vR BV (.seq (aen vQ BW (aep 100 (.sreg vP BU))) (aen vO BY (.seq (aen vN C4 (aeq 4 (aen vM [] (.seq (aer 115 4) (.seq (.block 5 (aen vL BV (.sreg vK Cs))) (.sreg vJ BU)))))) (.sreg vI Cu)))))) (.sreg vH BU)))))))) (.sreg vG BU)))))) (aen vF BU .ret))))))))))))),[(.cell true 4 2),(.tmp 3)]⟩
attribute [push_cast] yL yK yJ yI yH yG yF yE yD yC v8 v7 v6 vZ vY vX vW vV vU vT vS vR vQ vP vO vN vM vL vK vJ vI vH vG vF
theorem iM:aes 86=aet cv:=aew
def tI:LSO:=[Ab 4 0,Ab 5 0]
def tH:LSO:=[Aa 10 0,A6 11 10]
def tG:LSO:=[Ab 4 0,Ab 5 1]
def tF:LSO:=[Aa 12 1,Ah 13 12,Ab 14 0]
def tE:LSO:=[Au 15 14 13]
def tD:LSO:=[Aa 16 14,Aw 17 1 12 14,Ac 18 1 17,Aa 6 16,Aa 7 18]
def tC:LSO:=[Aa 20 7,Af 21 58 20,Aa 19 21,Al 22 19,Am 23 19,Bo 8,Ag 4 8 22,Aa 9 23]
def tB:LSO:=[Aa 24 9,Ax 25 24 0]
def tz:LSO:=[Aa 26 6,Aa 27 9,Aa 4 26,Aa 5 27]
def tx:LSO:=[Aa 28 0,A0 29 4 8,Ay 30 31 28 29,Ax 31 30 0]
def qZ:LSO:=[Aa 32 6,Aa 4 32,Ab 5 4]
def qY:LSO:=[Aj 33 14 1,Aa 14 33]
def qX:LSO:=[Aa 34 1,Ah 35 34,Aa 4 35,Ab 5 0]
def nz:aI:=⟨36,(aen tI [] (.seq (aen tH BU (aep 11 (.sreg tG []))) (.seq (aen tF [] (aeq 0 (aen tE [] (.seq (aer 15 0) (.seq (.block 1 (aen tD Ce (aen tC Cd (.seq (aen tB BU (aep 25 (.sreg tz Cj))) (aen tx BW (aep 31 (.sreg qZ Ca))))))) (.sreg qY BU)))))) (aen qX Cj .ret)))),[(.tmp 4),(.tmp 5)]⟩
attribute [push_cast] tI tH tG tF tE tD tC tB tz tx qZ qY qX
theorem Hr:aes 23=aet nz:=aew
def Lp:LSO:=[Ao 4]
def Lo:LSO:=[Ao 5]
def Ln:LSO:=[Aa 8 1,Aa 9 0,o1 10 (.bslice false 1 2 [(.sl [] 0 (some 0)),(.sl [] 0 (some 0))] [(0,(1,(tm 8))),(1,(1,(tm 9)))]),Af 11 80 10,Ah 12 11,Ab 13 0]
def Lm:LSO:=[Au 14 13 12]
def Ll:LSO:=[Aw 15 1 11 13,Ac 16 1 15,Aa 7 16]
def Lk:LSO:=[Aa 17 5,Aa 18 7,o1 19 (.app 0 2 32 [(.str []),(.str [])] (.av (.sl [] 0 (some 0))) (tm 18)),Bg 20 19,Bu 21 17 20,Aa 5 21]
def Lj:LSO:=[Aj 22 13 1,Aa 13 22]
def Li:LSO:=[Aa 23 5,Aa 4 23]
def xB:aI:=⟨24,(aen Lp [] (aen Lo [] (.seq (aen Ln [true,true,true,false,false,false] (aeq 0 (aen Lm [] (.seq (aer 14 0) (.seq (.block 1 (aen Ll BV (.sreg Lk BZ))) (.sreg Lj BU)))))) (aen Li BU .ret)))),[(.tmp 4)]⟩
attribute [push_cast] Lp Lo Ln Lm Ll Lk Lj Li
theorem JP:aM Tryz.prog (λr i=>if r=5/\i=2 then 0 else 1) 50=some xB.raw:=aew
def ed:LSO:=[Ao 2]
def d9:LSO:=[Ab 3 0]
def dZ:LSO:=[Aa 9 0,Ah 10 9,Ab 11 0]
def dY:LSO:=[Au 12 11 10]
def dX:LSO:=[Aw 13 1 9 11,Ac 14 1 13,Aa 5 14]
def dW:LSO:=[Aa 15 3,Aa 16 5,Ah 17 16,A7 18 15 17,Aa 3 18]
def dV:LSO:=[Aa 19 3,AF 20 19 0]
def dU:LSO:=[o1 21 (.mkif 9 (.av (.str [108,101,110,32,111,117,116,32,111,102,32,114,97,110,103,101]))),
 .op ⟨none,.bad,none⟩]
def dT:LSO:=[Aj 22 11 1,Aa 11 22]
def dS:LSO:=[Aa 23 3,o1 24 (.call 108 [(.av (.sl [] 0 (some 0))),(tm 23)]),Aa 6 24]
def dA:LSO:=[Aa 25 0,Ah 26 25,Ab 27 0]
def dz:LSO:=[Au 28 27 26]
def dy:LSO:=[Aw 29 1 25 27,Ac 30 1 29,Aa 8 30]
def dx:LSO:=[Aa 31 6,Aa 32 8,Bu 33 31 32,Aa 6 33]
def dw:LSO:=[Aj 34 27 1,Aa 27 34]
def dv:LSO:=[Aa 35 6,Aa 2 35]
def ce:aI:=⟨36,(aen ed [] (aen d9 [] (.seq (aen dZ [] (aeq 0 (aen dY [] (.seq (aer 12 0) (.seq (.block 1 (aen dX BV (aen dW BX (aen dV BU (aeo 20 (.sreg dU [false]) .skip))))) (.sreg dT BU)))))) (aen dS BV (.seq (aen dA [] (aeq 2 (aen dz [] (.seq (aer 28 2) (.seq (.block 3 (aen dy BV (.sreg dx BW))) (.sreg dw BU)))))) (aen dv BU .ret)))))),[(.tmp 2)]⟩
attribute [push_cast] ed d9 dZ dY dX dW dV dU dT dS dA dz dy dx dw dv
theorem kc:aes 80=aet ce:=aew
def HY:LSO:=[AH 2,Ab 3 0]
def HX:LSO:=[Aa 7 0,Af 8 35 7,Aa 6 8,Al 9 6,Am 10 6,Aa 4 9,Aa 5 10]
def HW:LSO:=[Aa 11 5,Ax 12 11 0]
def HV:LSO:=[Aa 13 5,AH 2,Aa 3 13]
def HU:LSO:=[Aa 14 0,Ah 15 14,Az 16 15 0]
def HT:LSO:=[AH 2,Ab 3 2]
def HS:LSO:=[Aa 17 0,Bv 18 50 17,
 .op ⟨(some 19),.mkmap,none⟩,
 .op ⟨(some 20),.mkmap,none⟩,o1 21 (.build [(.sl [] 0 (some 0)),.nilmap,.nilmap,(.int .i64 0)] [(0,(1,(tm 18))),(1,(1,(tm 19))),(2,(1,(tm 20))),(3,(1,(iv 0)))]),A3 22 21,
 o1 23 (.build [.nilptr] [(0,(1,(tm 22)))]),A3 24 23,Aa 2 24,Ab 3 0]
def jG:aI:=⟨25,(aen HY [] (.seq (aen HX BY (aen HW BU (aep 12 (.sreg HV Ca)))) (.seq (aen HU BV (aep 16 (.sreg HT []))) (aen HS Cm .ret)))),[(.tmp 2),(.tmp 3)]⟩
attribute [push_cast] HY HX HW HV HU HT HS
theorem vh:aes 21=aet jG:=aew
def vE:LSO:=[A3 3 1,Ab 4 0]
def vD:LSO:=[Aa 17 0,A6 18 17]
def vC:LSO:=[Ab 4 1]
def vB:LSO:=[Aa 19 0,Ae 20 19,Ad 21 0 20,Ac 22 1 21,A0 23 4 3,Ay 24 13 22 23,Aa 5 24]
def vA:LSO:=[Aa 25 5,Ax 26 25 0]
def vz:LSO:=[Aa 27 5,Aa 4 27]
def vy:LSO:=[Aa 28 0,Ae 29 28,Ad 30 0 29,Ac 31 1 30,Ad 32 1 3,Ac 33 1 32,Ay 34 26 31 33,Aa 6 34]
def vx:LSO:=[Ad 35 0 3,Ac 36 1 35]
def vw:LSO:=[Az 38 36 1,Aa 37 38]
def vv:LSO:=[Aa 39 0,Ae 40 39,Ad 41 0 40,Ac 42 1 41,Ae 43 42,Ad 44 3 43,Ac 45 1 44,Aj 46 45 1,Ae 47 42,Ad 48 3 47,Ag 1 48 46]
def te:List (aj×Kd):=
 [An 49 0,A1 50 49 0 1,Ap 51 0 50,Aq 52 1 51 0 1,A1 53 52 0 1,Ap 54 1 53,Aq 55 1 54 0 1,An 56 0,A1 57 56 0 1,Ap 58 0 57,Aq 59 1 58 0 1,A1 60 59 0 1,Ap 61 3 60,Aq 62 1 61 0 1,
 Ap 63 3 3,Aq 64 1 63 0 0,AN 65 68 64 0 0,od 66 (.build [(.sl [] 0 (some 0)),(.sl [] 0 (some 0)),(.sl [] 0 (some 0)),(.int .i64 0)] [(2,(1,(tm 65)))]) .pure,
 od 67 (.box (tm 66)) .eff]
def qK:List aj :=
 [⟨none,(.mset .int (tm 55) (tm 62) (tm 67)),none⟩]
def td:List (aj×Kd):=
 [An 68 0,An 69 0,A1 70 69 0 0,Ap 71 0 70,Aq 72 1 71 0 0,A1 73 72 0 0,Ap 74 3 73,Aq 75 1 74 0 0,Ap 76 1 3,Aq 77 1 76 0 0]
def qJ:List aj :=
 [⟨(some 78),(.call 69 [(tm 68),(tm 75),(tm 77)]),none⟩]
def tc:LSO:=[Aa 79 0,Ad 80 1 3,Ac 81 1 80,Bh 82 70 79 81 1]
def ta:LSO:=[Az 84 36 2,Aa 83 84]
def s9:LSO:=[Ad 86 1 3,Ac 87 1 86,Af 88 61 87,Aa 85 88,Al 89 85,Am 90 85,Aa 7 89,Aa 8 90]
def s8:LSO:=[Aa 91 0,Ae 92 91,Ad 93 0 92,Ac 94 1 93,Ae 95 94,Ad 96 2 95,Ac 97 1 96,Aa 98 7,o0 (.mdel .str (tm 97) (tm 98))]
def s7:LSO:=[Aa 99 0,Ae 100 99,Ad 101 0 100,Ac 102 1 101,Ae 103 102,Ad 104 1 103,Ac 105 1 104,Aa 106 6,o0 (.mdel .int (tm 105) (tm 106))]
def s6:LSO:=[Aa 107 0,Ad 108 1 3,Ac 109 1 108,Bh 110 70 107 109 (-1)]
def sZ:LSO:=[Az 112 36 3,Aa 111 112]
def sY:List (aj×Kd):=
 [An 113 0,A1 114 113 0 0,Ap 115 0 114,Aq 116 1 115 0 0,A1 117 116 0 0,Ap 118 1 117,Aq 119 1 118 0 0,An 120 6,od 121 (.mget .int false .nilptr (tm 119) (tm 120)) (.read 0 0),
 Ap 122 3 3,Aq 123 1 122 0 0,AN 124 68 123 0 0]
def qI:List aj :=
 [⟨(some 125),(.nilchk (tm 121)),none⟩,⟨(some 126),(.faddr 2 (tm 125)),none⟩,⟨none,(.store 1 (tm 126) (tm 124)),none⟩]
def sX:LSO:=[Az 128 36 4,Aa 127 128]
def sW:LSO:=[Aa 129 0,Ae 130 129,Ad 131 0 130,Ac 132 1 131,Aa 133 6,Bh 134 32 132 133 2,Aa 9 134]
def sV:LSO:=[Aa 135 9,Ah 136 135,Ab 137 0]
def sU:LSO:=[Au 138 137 136]
def sT:LSO:=[Aw 139 1 135 137,Ac 140 1 139,Aa 11 140]
def sS:LSO:=[Aa 142 0,Ae 143 142,Ad 144 0 143,Ac 145 1 144,Ae 146 145,Ad 147 1 146,Ac 148 1 147,Aa 149 11,AX 150 148 149,Ae 151 150,Ad 152 0 151,Ac 153 1 152,
 Af 154 61 153,Aa 141 154,Al 155 141,Am 156 141,Aa 12 155,Aa 13 156]
def sR:LSO:=[Aa 157 0,Ae 158 157,Ad 159 0 158,Ac 160 1 159,Ae 161 160,Ad 162 2 161,Ac 163 1 162,Aa 164 12,o0 (.mdel .str (tm 163) (tm 164))]
def sQ:LSO:=[Aj 165 137 1,Aa 137 165]
def sP:LSO:=[Aa 166 0,Ad 167 1 3,Ac 168 1 167,Bh 169 70 166 168 (-1)]
def sO:LSO:=[Aa 170 9,Ah 171 170,Ab 172 0]
def sN:LSO:=[Au 173 172 171]
def sM:LSO:=[Aw 174 1 170 172,Ac 175 1 174,Aa 15 175]
def sL:LSO:=[Aa 176 0,Ae 177 176,Ad 178 0 177,Ac 179 1 178,Ae 180 179,Ad 181 1 180,Ac 182 1 181,Aa 183 15,AX 184 182 183,Ae 185 184,Ad 186 0 185,Ac 187 1 186,
 Aa 16 187]
def sK:List (aj×Kd):=
 [An 188 0,An 189 15,Ap 190 2 3,Aq 191 1 190 0 0,An 192 16,An 193 16,BJ 194 193 0 0,Ap 195 1 3,Aq 196 1 195 0 0,BJ 197 196 0 0,od 198 (.bin .sub (tm 194) (tm 197)) .pure,
 od 199 (.slV 1 (tm 192) none (some (tm 198)) none) (.read 0 0),od 200 (.call 50 [(tm 191),(tm 199)]) (.read 0 0)]
def qH:List aj :=
 [⟨(some 201),(.call 69 [(tm 188),(tm 189),(tm 200)]),none⟩]
def sJ:LSO:=[Aj 202 172 1,Aa 172 202]
def sI:LSO:=[Aa 203 0,Ad 204 2 3,Ac 205 1 204,Bh 206 70 203 205 1]
def sH:List (aj×Kd):=
 [An 207 0,A1 208 207 0 0,Ap 209 0 208,Aq 210 1 209 0 0,A1 211 210 0 0,Ap 212 1 211,Aq 213 1 212 0 0,An 214 6,od 215 (.mget .int false .nilptr (tm 213) (tm 214)) (.read 0 0),
 Ap 216 3 3,Aq 217 1 216 0 0,AN 218 68 217 0 0]
def qG:List aj :=
 [⟨(some 219),(.nilchk (tm 215)),none⟩,⟨(some 220),(.faddr 2 (tm 219)),none⟩,⟨none,(.store 1 (tm 220) (tm 218)),none⟩]
def sG:LSO:=[Ab 4 0]
def bq:aI:=⟨221,(aen vE [] (.seq (aen vD BU (aep 18 (.sreg vC []))) (.seq (.sdreg vB [.pure,(.read 0 0),.pure,(.read 0 0),(.read 0 0)] BY) (.seq (aen vA BU (aep 26 (.sreg vz BU))) (.seq (.sdreg vy [.pure,(.read 0 0),.pure,(.read 0 0),.pure,(.read 0 0)] Cb) (.seq (aen vx BU (.block 0 (aen vw BU (aeo 37 (aen vv C9 (.seq (.dregM te qK C7) (.seq (.dregM td qJ CA) (.sreg tc Cg)))) (aen ta BU (aeo 83 (aen s9 C8 (aen s8 Cp (aen s7 Cp (.sreg s6 Cg)))) (aen sZ BU (aeo 111 (.dregM sY qI C0) (aen sX BU (aeo 127 (aen sW BY (.seq (aen sV [] (aeq 1 (aen sU [] (.seq (aer 138 1) (.seq (.block 2 (aen sT BV (aen sS [false,true,false,false,false,false,false,false,false,false,false,false,false,false,false,false,false,false] (.sreg sR Cp)))) (.sreg sQ BU)))))) (aen sP Cg (.seq (aen sO [] (aeq 3 (aen sN [] (.seq (aer 173 3) (.seq (.block 4 (aen sM BV (aen sL CB (.dregM sK qH C0)))) (.sreg sJ BU)))))) (aen sI Cg (.dregM sH qG C0)))))) .skip)))))))))) (aen sG [] .ret))))))),[(.tmp 4)]⟩
attribute [push_cast] vE vD vC vB vA vz vy vx vw vv te qK td qJ tc ta s9 s8 s7 s6 sZ sY qI sX sW sV sU sT sS sR sQ sP sO sN sM sL sK qH sJ sI sH qG sG
theorem eh:aes 31=aet bq:=aew
def qE:LSO:=[A3 3 1,Ab 4 0]
def qD:LSO:=[Aa 8 0,A6 9 8]
def qC:LSO:=[Ab 4 1]
def qB:LSO:=[Aa 10 0,Ad 11 1 3,Ac 12 1 11,Ay 13 26 10 12,Aa 5 13]
def qA:LSO:=[Ad 14 0 3,Ac 15 1 14]
def qz:LSO:=[Az 17 15 1,Aa 16 17]
def qw:LSO:=[Ad 19 1 3,Ac 20 1 19,Af 21 35 20,Aa 18 21,Al 22 18,Am 23 18,Aa 6 22,Aa 7 23]
def qv:LSO:=[Aa 25 7,Ax 26 25 0,Aa 24 26]
def qu:LSO:=[Ab 4 34]
def qt:LSO:=[Aa 28 5,AB 29 28 0,Aa 27 29]
def oH:LSO:=[Ab 4 68]
def oG:LSO:=[Aa 31 0,Ad 32 1 3,Ac 33 1 32,Aa 34 0,Ae 35 34,Ad 36 0 35,Ac 37 1 36,AU 38 36 31 33 37,A5 39 38,Aa 40 39,.grp none 40 true
 [AT 41 40 1 3,AO 42 40 1 41,Bj 43 40 42,AC 44 40 43 0,Ak 45 40 44,.grp (some (40,true)) 45 false
 [Ai 46 45 0,A9 47 45 1 3,A8 48 45 1 47,og 49 45 false (.slV 1 (tm 48) (some (iv 1)) none none),og 50 45 false (.call 26 [(tm 46),(tm 49)]),Bn 51 45 50 0]
 52 (tm 51)]
 53 (tm 52),Aa 30 53]
def oF:LSO:=[Ab 4 32]
def oE:LSO:=[Aa 55 0,Ae 56 55,Ad 57 1 56,Ac 58 1 57,o1 59 (.mlen (tm 58)),Bd 60 59 4096,Aa 54 60]
def oD:LSO:=[Ab 4 80]
def oC:LSO:=[Ab 4 0]
def oB:LSO:=[Az 62 15 2,Aa 61 62]
def oA:LSO:=[Az 63 15 3,Aa 61 63]
def oz:LSO:=[Az 64 15 4,Aa 61 64]
def oy:LSO:=[Aa 65 5,Az 66 65 0]
def ox:LSO:=[Ab 4 32]
def ow:LSO:=[Ad 67 0 3,Ac 68 1 67]
def ov:LSO:=[Az 70 68 2,Aa 69 70]
def ou:LSO:=[Aa 71 0,Ae 72 71,Ad 73 1 72,Ac 74 1 73,Aa 75 5,AX 76 74 75,Ae 77 76,Ad 78 3 77,Ac 79 1 78,AB 80 79 0]
def ot:LSO:=[Ab 4 66]
def oq:LSO:=[Ab 4 0]
def oo:LSO:=[Az 82 68 3,Aa 81 82]
def om:LSO:=[Ab 4 0]
def ol:LSO:=[Az 84 68 4,Aa 83 84]
def oj:LSO:=[Aa 85 0,Aa 86 5,A0 87 4 3,AU 88 37 85 86 87,Aa 4 88]
def oi:LSO:=[Ab 4 1]
def ao:aI:=⟨89,(aen qE [] (.seq (aen qD BU (aep 9 (.sreg qC []))) (aen qB BX (.seq (aen qA BU (.block 0 (aen qz BU (aeo 16 (aen qw Cb (.seq (.block 1 (aen qv BV (aeo 24 (aen qu [] .ret) (aen qt BV (aeo 27 (aen oH [] .ret) (.seq (.sdreg oG [.pure,.pure,(.read 0 0),.pure,(.read 0 0),.pure,(.read 0 0),(.read 0 0),.pure,.pure,.pure,(.read 0 0),(.read 0 0),.pure,.pure,.pure,.pure,(.read 0 0),(.read 0 0)] C5) (aeo 30 (aen oF [] .ret) (aen oE BY (aep 54 (.sreg oD [])))))))))) (aen oC [] .ret))) (.seq (aen oB BU (aeo 61 .skip (aen oA BU (aeo 61 .skip (.sreg oz BU))))) (aeo 61 (aen oy BU (aep 66 (.sreg ox []))) .skip)))))) (.seq (aen ow BU (.block 2 (aen ov BU (aeo 69 (.seq (aen ou Cc (aep 80 (.sreg ot []))) (aen oq [] .ret)) (aen oo BU (aeo 81 (aen om [] .ret) (aen ol BU (aep 83 (.sreg oj BX))))))))) (aen oi [] .ret)))))),[(.tmp 4)]⟩
attribute [push_cast] qE qD qC qB qA qz qw qv qu qt oH oG oF oE oD oC oB oA oz oy ox ow ov ou ot oq oo om ol oj oi
theorem aG:aes 13=aet ao:=aew
def qr:LSO:=[Ab 4 0]
def qq:LSO:=[Aa 7 0,A6 8 7]
def qp:LSO:=[Ab 4 0]
def qo:LSO:=[Aa 10 1,Af 11 61 10,Aa 9 11,Al 12 9,Am 13 9,Aa 5 12,Aa 6 13]
def qn:LSO:=[Aa 14 6,Ax 15 14 0]
def qm:LSO:=[Ab 4 0]
def ql:LSO:=[Aa 16 0,Ae 17 16,Ad 18 2 17,Ac 19 1 18,Aa 20 5,o1 21 (.mget .str false (.int .i64 0) (tm 19) (tm 20)),Aa 4 21]
def aR:aI:=⟨22,(aen qr [] (.seq (aen qq BU (aep 8 (.sreg qp []))) (aen qo Cd (.seq (aen qn BU (aep 15 (.sreg qm []))) (aen ql BY .ret))))),[(.tmp 4)]⟩
attribute [push_cast] qr qq qp qo qn qm ql
theorem bT:aes 26=aet aR:=aew
attribute [push_cast] bE cv nz xB ce jG bq ao aR
open Go Go.Sort Go.Proofs
variable {L:List Blk}{K:abx}
set_option maxHeartbeats 8000000
set_option maxRecDepth 100000
theorem RH(z:Array Value):∀k,(Builtin.zeroCells z k).size=k*z.size:=by intro k;simp[Builtin.zeroCells]
theorem WF:∃a,Tryz.prog.info? 74=some a/\a.zero=some (.slice none 0 0)/\a.size=1/\a.bytes=24:=by
 have h:(Tryz.prog.info? 74).map (λi=>(i.zero,i.size,i.bytes))=some (some (.slice none 0 0),1,24):=aew;cases hi:Tryz.prog.info? 74 with
 |none=>rw[hi]at h;cases h
 | some a =>
   rw[hi]at h;simp only[abQ,abz,abI]at h;exact⟨a,rfl,h⟩
theorem WK{L:List Blk}{K:abx}(h:K (.sl [] 0 (some 0)) L):abw 108 [.sl [] 0 (some 0),.int .i64 0] L K :=
 iE Tryz.func108 rfl aew (λw0 S0 E w vs k a=>by simp only[VRL]at a;obtain⟨v,_,rfl,a,_,_,rfl,d,rfl⟩:=a;have b:=a;simp only[VR]at a d;obtain⟨p,c,rfl,_,j,_⟩:=a;have f:c=0:=j 0 rfl;subst f;subst d;exact(Any8.slices_Grow_room Tryz.growD p 0 0 0 w (abA _) aeu aeu aeu).mono λe w' ⟨g,i⟩=>⟨_,g,b,by subst i;exact Ol.refl _⟩) h
theorem YA{n:Nat}(z:0<n)(B:n<=4000000)(h:K (.lsl L.length 0 0 none 1) (L++[.cells []])):abw 108 [.sl [] 0 (some 0),.int .i64 (n:Int)] L K:=λw0 S0 E w vs m f=>by
 simp only[VRL,VR]at f;obtain⟨_,_,rfl,⟨p,c,rfl,_,y,_⟩,_,_,rfl,rfl,rfl⟩:=f;have g:c=0:=y 0 rfl;subst g;obtain⟨i,x,t,A,s⟩:=WF;refine .inl ⟨ju Tryz.func108 rfl aew _ _,(Any8.slices_Grow_grow Tryz.growD i (.slice none 0 0) x t aeu p 0 0 n [] w (abA _) aeu (by rw[s];omega) aeu aev (λ_=>rfl) (λa _ j v l=>by simp at l)).mono ?_⟩;rintro e w' ⟨rfl,rfl⟩;have r:Rel w0 S0 E L w.drew:=m.grown ⟨λ_ _=>rfl,abA _,rfl,rfl,rfl⟩
 let cs:Array Value:=([]:List Value).toArray++Builtin.zeroCells (Value.slice none 0 0).cells (0+n-0)++Builtin.zeroCells (Value.slice none 0 0).cells (grownCap w (0+n) 0 74-(0+n))
 have b:cs.size=n+(grownCap w (0+n) 0 74-n):=by simp only[cs,Array.size_append,RH];have:(Value.slice none 0 0).cells.size=1:=rfl;rw[this];simp
 have d:=r.push (.cells cs 74) (.cells []) ⟨w.heap.size,0,cs.size⟩ rfl rfl ⟨⟨w.heap.size,0,cs.size⟩,cs,74,(0,0),aev,(show(w.heap.push (Obj.cells cs 74))[w.heap.size]?=some (Obj.cells cs 74 (0,0))by simp),rfl,aev,(λj a u=>by simp at u),λo _ _=>aeu⟩;refine⟨_,_,_,_,rfl,d.1,h,?_,d.2⟩;simp only[VR];exact⟨⟨w.heap.size,0,cs.size⟩,grownCap w (0+n) 0 74,0,aev,rfl,λ_=>rfl,abJ _,(λk q=>by cases q),by simp only[b];omega⟩
abbrev Ou(l:List AV):AV:=.sl l l.length none
theorem Yf{ls:List (List AV)}{k:Nat}(h:k<ls.length):(ls.map Ou).getD k .undef=Ou (ls.getD k []):=by simp[h]
theorem SN{ls:List (List AV)}{k:Nat}(h:k<ls.length):(ls.take (k+1)).flatten=(ls.take k).flatten++ls.getD k []:=by rw[ab6 h,List.flatten_append];simp[h]
theorem WV(ls:List (List AV))(k:Nat):(ls.take k).flatten.length<=ls.flatten.length:=by
 have h:ls.flatten=(ls.take k).flatten++(ls.drop k).flatten:=by rw[<- List.flatten_append,ac4]
 rw[h];simp
theorem Pl{ls:List (List AV)}{cap:Option Nat}(O:ls.length<=1100000)(J:ls.flatten.length<=1100000)(d:∀l∈ls,l.all AV.one=true)(f:∀p,AV.refsL p ls.flatten=true){L:List Blk}{K:abx}(h:K (.sl ls.flatten ls.flatten.length none) L):
  abw 80 [.sl (ls.map Ou) ls.length cap] L K:=by
 replace h:=hid h;have x:=hid (λk=>@SN ls k);have A:=hid (WV ls);have v:=hid (λk=>@Yf ls k);replace d:=hid d;replace f:=hid f;refine abv kc ?_;refine ar (λn T' L'=>∃k:Nat,n=ls.length-k/\k<=ls.length/\T'=[(11,.int .i64 (k:Int)),(10,.int .i64 ls.length),(9,.sl (ls.map Ou) ls.length cap),(3,.int .i64 ((ls.take k).flatten.length:Int)),(2,.sl [] 0 (some 0)),(0,.sl (ls.map Ou) ls.length cap)]/\L=L') (CutS (b:=abA _)) ⟨0,rfl,abJ _,rfl,rfl⟩ ?_;rintro _ _ _ ⟨k,rfl,D,rfl,rfl⟩;by_cases a:k<ls.length;have g1:(k:Int)<(ls.length:Int):=aeu;have G:=abu k aeu;have g:=x.o k a;have u:=v.o k a;have r:=A.o (k+1);obtain⟨l,s⟩:=abr (ls.getD k []);rw[s]at g u;have B:(ls.take (k+1)).flatten.length=(ls.take k).flatten.length+l.length:=by rw[g,abP]
 rw[B]at r;obtain⟨m,q⟩:=abr ((ls.take k).flatten.length);rw[q]at r B⊢;replace g:=hid g;replace q:=hid q;replace s:=hid s;have g3:IntKind.i64.wrap ((m:Int)+(l.length:Int))=(m:Int)+(l.length:Int):=af aeu aeu;have g4:¬((m:Int)+(l.length:Int)<0):=aeu;refine wk ?_;exact aez aeu (CutL (b:=abA _)) ⟨k+1,rfl,a,rfl,rfl⟩;have j:k=ls.length:=aeu;subst j;clear a D;have g1:¬(ls.length:Int)<(ls.length:Int):=aeu;obtain⟨m,q⟩:=abr (ls.flatten.length);rw[abX,q];rw[q]at h J;rcases acP m with M|z;subst M;have t:=hid (acm.1 q);have kk1:=@hid _ @WK;refine wk ?_;refine cB (l:=[]) (n:=0) 6 1 rfl (acg 1).symm ?_;refine ar (λn T' L'=>∃k:Nat,n=ls.length-k/\k<=ls.length/\T'=[(27,.int .i64 (k:Int)),(26,.int .i64 ls.length),(25,.sl (ls.map Ou) ls.length cap),(6,.gsl [] 0 L.length 1)]/\L'=L++[.spare 0 1]) aey ⟨0,rfl,abJ _,rfl,rfl⟩ ?_;rintro _ _ _ ⟨k,rfl,D,rfl,rfl⟩;by_cases a:k<ls.length;have g1:(k:Int)<(ls.length:Int):=aeu;have G:=abu k aeu;have u:=v.o k a;have r:ls.getD k []=[]:=List.flatten_eq_nil_iff.1 t.o _ (by rw[abR,ab0 a];exact acN _);rw[r]at u;replace u:(ls.map Ou).getD k .undef=.sl [] 0 none:=u;clear r;refine wk ?_;exact aez aeu aex ⟨k+1,rfl,a,rfl,rfl⟩;have j:k=ls.length:=aeu;subst j;have g1:¬(ls.length:Int)<(ls.length:Int):=aeu;refine wk ?_;refine aB (ae (by rfl) ?_);have:=h.o;rw[t.o]at this;exact this;have kk1:=@hid _ (λL K=>YA z aeu (K:=K) (L:=L));refine wk ?_;refine ar (λn T' L'=>∃(k i:Nat) (X:List Blk) (c:List AV),n=ls.length-k/\k<=ls.length/\Hid (c=(ls.take k).flatten)/\c.length<=m/\i=L.length+X.length/\T'=[(27,.int .i64 (k:Int)),(26,.int .i64 ls.length),(25,.sl (ls.map Ou) ls.length cap),(6,.lsl i 0 c.length none 1)]/\L'=L++(X++[.cells c])) aey ⟨0,L.length,[],[],rfl,abJ _,hid rfl,abJ _,rfl,rfl,rfl⟩ ?_;rintro _ _ _ ⟨k,i,X,c,rfl,D,F,I,w,rfl,rfl⟩;have y:(L++(X++[Blk.cells c]))[i]?=some (.cells c):=by subst w;simp
 replace w:=hid w;by_cases a:k<ls.length;have g1:(k:Int)<(ls.length:Int):=aeu;have G:=abu k aeu;have g:=x.o k a;have u:=v.o k a;have r:=A.o (k+1);obtain⟨l,s⟩:=abr (ls.getD k []);have E:l.all AV.one=true:=d.o l (by rw[<- s];simp[a]);rw[s]at g u;rw[<- F.o]at g;have B:c.length+l.length<=m:=by rw[g,abP,q]at r;exact r
 have Q:(c.length+l.length)*24<=140737488355328:=aeu;have P:c.length+l.length<=140737488355328:=aeu;replace g:=hid g;replace s:=hid s;clear r;have C:(L++(X++[Blk.cells c])).set i .dead=L++(X++[.dead]):=by rw[w.o];simp
 have H:(L++(X++[Blk.dead])).length=i+1:=by rw[w.o];simp;omega
 refine wk ?_;refine aez ?_ aex ⟨k+1,i+1,X++[.dead],c++l,rfl,a,hid g.o.symm,by simpa using B,by rw[w.o];simp;omega,rfl,?_⟩;omega;simp[ab7];have j:k=ls.length:=aeu;subst j;have g1:¬(ls.length:Int)<(ls.length:Int):=aeu;refine wk ?_;refine EG (i:=i) (l:=c) y ?_;rw[show(L++(X++[Blk.cells c])).set i .dead=L++(X++[.dead])by rw[w.o];simp];have e:=F.o;rw[abX]at e;have N:(AV.lsl i 0 c.length none 1).snap i c=.sl c c.length none:=by simp[AV.snap,ab7]
 rw[N,e,q];exact ae (by simp only[AV.refs,f.o]) h.o
theorem Ki{d:List Rdn}{cap e:Option Nat}(u:d.length<=1100000)(hr:∀r∈d,r.length<=1100000)(h:K (.sl (d.map aJ) d.length none) L):
  abw 50 [.sl (d.map aJ) d.length cap,.sl [] 0 e] L K:=by
 replace h:=hid h;have j:=hid (λk=>@G9 d k);replace hr:=hid hr;have kk1:Hid (Ctr Tryz.prog 80 [.sl [.sl [] 0 e,.sl (d.map aJ) d.length cap] 2 (some 2)] (.sl (d.map aJ) d.length none)):=@hid _ (by
  intro L K q;refine dQ ?_;simp only[AV.frzL,AV.frz,cF];have:=@Pl [[],d.map aJ] none aev (by simpa using u) (λl t=>by simp at t;rcases t with rfl|rfl;rfl;rw[abL];intro a x;obtain⟨r,_,rfl⟩:=abB.1 x;rfl) (λp=>by simpa using fV p d) L K
  simp only[ad9,aea,ab1,aco,abO,acw,abM,ack,abU,Ou]at this;exact this q)
 refine abv JP ?_;refine cB (l:=[]) (n:=0) 5 1 rfl (acg 1).symm ?_;refine ar (λm T' L'=>∃(k:Nat) (C:List AV) (X:List Blk),m=d.length-k/\k<=d.length/\Hid (C=(d.take k).map aJ)/\T'=[(13,.int .i64 (k:Int)),(12,.int .i64 d.length),(11,.sl (d.map aJ) d.length none),(5,.gsl C k L.length 1)]/\L'=L++(.spare k 1::X)) aey ⟨0,[],[],rfl,abJ _,hid rfl,rfl,aev⟩ ?_;rintro _ _ _ ⟨k,C,X,rfl,B,i,rfl,rfl⟩;by_cases b:k<d.length;have g1:(k:Int)<(d.length:Int):=aeu;have A:=abu k aeu;have v:=j.o k b;have y:k<(d.map aJ).length:=by simpa using b
 obtain⟨r,c⟩:=abr (d.getD k []);have w:=hr.o r (by rw[<- c];simp[b]);have f:(d.take (k+1)).map aJ=C++[.sl (bU r) r.length none]:=by rw[i.o,ab6 b,abS,show d[k]=r by rw[<- c];simp[b]];rfl
 rw[c]at v;have z:=xC r;have D:=l8 r;replace f:=hid f;clear c i;refine wk ?_;exact aez aeu aex ⟨k+1,_,_,rfl,b,hid f.o.symm,rfl,rfl⟩;have s:k=d.length:=aeu;subst s;have g1:¬(d.length:Int)<(d.length:Int):=aeu;have g:=i.o;rw[abX]at g;subst g;clear i;refine wk ?_;refine aB ?_;simp only[AV.frz,cF];exact ae (by simp only[AV.refs,fV]) h.o
def aaN(d:List Rdn):Prop:=(d.length:Int)<=9223372036854775807/\∀r∈d,(r.length:Int)<=9223372036854775807
def aaD(u:Upd):Prop:=dnB u.dn/\dnB u.tw/\u.attrs.length<=1100000/\∀a∈u.attrs,a.2.length<=1100000
theorem aae{u:Upd}(O:aaD u)(h:K (.agg (gp (kX u))) L):abw 87 [.agg (gp u)] L K:=by
 obtain⟨k,d,t,l⟩:=u;obtain⟨hd,J,H,I⟩:=O;simp only[gp,kX]at hd J H I h⊢;obtain⟨t',f⟩:=abr ((if k=4 then t else[]));obtain⟨b,e⟩:=abr ((if k=2 then[]else l));rw[f,e]at h;have x:dnB t':=by rw[<- f];split;exact J;exact⟨aev,aev⟩
 have P:b.length<=1100000:=by rw[<- e];split;simp;exact H
 have g:∀a∈b,a.2.length<=1100000:=by rw[<- e];split;simp;exact I
 replace h:=hid h;have kk1:Hid (∀{cap:Option Nat}{L:List Blk}{K:abx},K (dnA d) L->abw 50 [dnA d,.sl [] 0 cap] L K):=@hid _ (by intro cap L K q;exact Ki hd.1 hd.2 q);have kk2:Hid (∀{cap:Option Nat}{L:List Blk}{K:abx},K (dnA t') L->abw 50 [dnA t',.sl [] 0 cap] L K):=@hid _ (by intro cap L K q;exact Ki x.1 x.2 q);refine aa Kp (by simp[vl]) ?_;simp only[vl,am]
 iterate 3 first
  |refine kY ?_
  | (first|refine jz aew ?_|refine fM aew ?_|refine fP ?_|refine zT ?_|refine nD (fun _=>?_)|refine dP ?_|refine jB ?_)
    simp(config:={maxSteps:=2000000}) only[Kon,push_cast,reduceIte,Nat.reduceEqDiff,Nat.reduceAdd,Nat.reduceMul,Nat.reduceSub,Nat.reduceLT,Nat.reduceLeDiff,Int.reduceLT,Int.reduceLE,Int.reduceAdd,Int.reduceSub,Int.reduceNeg,Int.reduceToNat,Int.reduceEq,reduceCtorEq, *]
  | (first|refine jv aew ?_|refine iN ?_|refine fO ?_|refine jA ?_|refine nI (dO ?_))
    simp only[push_cast,reduceIte,Nat.reduceEqDiff,Nat.reduceAdd,Nat.reduceMul,Nat.reduceSub,Nat.reduceLT,Nat.reduceLeDiff,Int.reduceLT,Int.reduceLE,Int.reduceAdd,Int.reduceSub,Int.reduceNeg,Int.reduceToNat,Int.reduceEq,reduceCtorEq, *]
  |exact nE
  |first|apply nF|apply jw|apply nG|apply jx|apply nH|apply jy
  |refine fS ?_
  |refine fN ?_
  |first|refine fQ rfl ?_|refine fR rfl ?_|refine cE rfl ?_ ?_|refine iD rfl (λ_=>?_) (λ_=>?_)|refine iC rfl (λ_=>?_) (λ_=>?_)
  |((first|refine cD (λ_=>?_) (λ_=>?_)|refine dN (λ_=>?_) (λ_=>?_))<;>try simp(config:={maxSteps:=2000000}) only[Kon,push_cast,reduceIte,Nat.reduceEqDiff,Nat.reduceAdd,Nat.reduceMul,Nat.reduceSub,Nat.reduceLT,Nat.reduceLeDiff,Int.reduceLT,Int.reduceLE,Int.reduceAdd,Int.reduceSub,Int.reduceNeg,Int.reduceToNat,Int.reduceEq,reduceCtorEq, *])
  |refine And.intro trivial ?_
  |refine And.intro aeu ?_
  |refine eQ rfl (λ_=>?_) (λ_=>?_)
  |refine And.intro ?_ ?_
 refine Mx (λB L2=>∃s,s.frz=dnA t'/\B=[(2,.ptr (L.length+1) 0),(1,.ptr L.length 0)]/\L2=L++[.cells [.int .i64 k,dnA d,s,.sl (cj l) l.length none],.cells [.int .i64 0,.sl [] 0 (some 0),.sl [] 0 (some 0),.sl [] 0 (some 0)]]) ?_ ?_;by_cases h4:k=4;rw[if_pos h4]at f;subst f;clear e h kk1 kk2;refine wk ?_;exact ym _ _ aey ⟨_,by simp only[AV.frz,cF],rfl,rfl⟩;rw[if_neg h4]at f;subst f;clear e h kk1 kk2;refine wk ?_;exact ym _ _ aey ⟨.sl [] 0 (some 0),rfl,rfl,rfl⟩;rintro _ _ ⟨s,p,rfl,rfl⟩ -;refine Mx (λB L2=>∃v,v.frz=.sl (cj b) b.length none/\B=[(2,.ptr (L.length+1) 0),(1,.ptr L.length 0)]/\L2=L++[.cells [.int .i64 k,dnA d,s,v],.cells [.int .i64 0,.sl [] 0 (some 0),.sl [] 0 (some 0),.sl [] 0 (some 0)]]) ?_ ?_;by_cases E:k=2;rw[if_pos E]at e;subst e;clear f h kk1 kk2 p;refine wk ?_;exact ym _ _ aey ⟨.sl [] 0 (some 0),rfl,rfl,rfl⟩;rw[if_neg E]at e;subst e;clear f h kk1 kk2 p;refine wk ?_;exact ym _ _ aey ⟨_,by simp only[AV.frz,xG],rfl,rfl⟩;rintro _ _ ⟨v,y,rfl,rfl⟩ -;refine Za L.length (c:=[.int .i64 k,dnA d,s,v]) aev ?_;have G:(L++[Blk.cells [.int .i64 k,dnA d,s,v],.cells [.int .i64 0,.sl [] 0 (some 0),.sl [] 0 (some 0),.sl [] 0 (some 0)]]).set L.length (.cells (AV.frzL [.int .i64 k,dnA d,s,v]))=L++[.cells [.int .i64 k,dnA d,dnA t',.sl (cj b) b.length none],.cells [.int .i64 0,.sl [] 0 (some 0),.sl [] 0 (some 0),.sl [] 0 (some 0)]]:=by simp only[AV.frzL,p,y,AV.frz,cF];simp
 rw[G];clear G p y f e;replace g:=hid g;refine wk ?_;refine⟨⟨bp (kk2.o ⟨rfl,rfl⟩) rfl,bp (kk1.o ⟨rfl,rfl⟩) rfl⟩,?_⟩;clear kk1 kk2;refine wk ?_;refine JX (L.length+2) 3 2 (c:=[.int .i64 k,dnA d,dnA t',.sl [] 0 (some 0)]) (l:=[]) (n:=0) aev rfl (acg 2).symm ?_;refine ar (λm T' L'=>∃(i:Nat) (D:List AV) (X:List Blk),m=b.length-i/\i<=b.length/\Hid (D=cj (b.take i))/\T'=[(26,.int .i64 (i:Int)),(25,.int .i64 b.length),(24,.sl (cj b) b.length none),(3,.ptr (L.length+2) 0),(2,.ptr (L.length+1) 0),(1,.ptr L.length 0)]/\L'=L++(.cells [.int .i64 k,dnA d,dnA t',.sl (cj b) b.length none] :: .cells [.int .i64 0,.sl [] 0 (some 0),.sl [] 0 (some 0),.sl [] 0 (some 0)] :: .cells [.int .i64 k,dnA d,dnA t',.gsl D i (L.length+3) 2] :: .spare i 2::X)) aey ⟨0,[],[],rfl,abJ _,hid rfl,rfl,aev⟩ ?_;rintro _ _ _ ⟨i,D,X,rfl,S,A,rfl,rfl⟩;by_cases j:i<b.length;have g3:(i:Int)<(b.length:Int):=aeu;have Q:=abu i aeu;have F:=Mv j;have R:i*2+2<=(cj b).length:=by rw[Oc];omega
 obtain⟨⟨n,vs⟩,z⟩:∃a,b.getD i ([],[])=a:=⟨_,rfl⟩;have N:vs.length<=1100000:=g.o (n,vs) (by rw[<- z];simp[j]);rw[z]at F;simp only[atA]at F;have r:cj (b.take (i+1))=D++[.str n,.sl (vs.map AV.str) vs.length none]:=by rw[A.o,ab6 j,show b[i]=(n,vs)by rw[<- z];simp[j],Od];rfl
 have M:=jo vs;replace r:=hid r;clear z A g;refine wk ?_;exact aez aeu aex ⟨i+1,_,_,rfl,j,hid r.o.symm,rfl,rfl⟩;have C:i=b.length:=aeu;subst C;have g3:¬(b.length:Int)<(b.length:Int):=aeu;have w:=A.o;rw[abX]at w;have M:=xG b;subst w;clear A g;refine wk ?_;refine aB ?_;simp only[AV.frz,AV.frzL,cF,M];exact ae (by simp only[AV.refs,AV.refsL,fV,xF];rfl) h.o
def szB(B:Nat):Nat->Nd->Prop
 |0,n=>n.data.length<=B/\n.kids.length<=B
 |k+1,n=>n.data.length<=B/\n.kids.length<=B/\∀x∈n.kids,szB B k x
theorem Pw{B:Nat}:∀{k:Nat}{n:Nd},szB B k n->n.data.length<=B/\n.kids.length<=B
 |0,_,h=>h
 |_+1,_,h=>⟨h.1,h.2.1⟩
def VZ:Option Upd->AV
 |none=>.tup [.agg [.int .i64 0,.sl [] 0 none,.sl [] 0 none,.sl [] 0 none],.bool false]
 |some u=>.tup [.agg (gp u),.bool true]
theorem EO{l:List Nd}{k:Nat}(h:k<l.length):(aC l).getD (k*3+1) .undef=.str (l.getD k bZ).data:=by have a:=congrArg (λl=>l[1]?) (xN h);simp only[acf (show 1<3 by omega),aci]at a;rw[abR,a,dM];rfl
theorem UE{l:List Nd}{k:Nat}(h:k<l.length):(aC l).getD (k*3+2) .undef=.sl (aC (l.getD k bZ).kids) (l.getD k bZ).kids.length none:=by have a:=congrArg (λl=>l[2]?) (xN h);simp only[acf (show 2<3 by omega),aci]at a;rw[abR,a,dM];rfl
theorem J9:∀(l:List Nd) (k:Nat),(aC l).drop (k*3)=aC (l.drop k)
 |[],k=>by have e:aC []=[]:=(by rw[aC]);rw[List.drop_nil,e,List.drop_nil]
 |n::l,0=>aev
 |n::l,k+1=>by rw[ad5,<- J9 l k,aC,List.drop_append,dM];rw[ad6 (by simp;omega),aco];congr 1;simp;omega
def ZM(l:List Nd):Option Upd :=
 if l.length<2\/4<l.length then none else
 match R8 (l.getD 0 bZ).data with
 |none=>none
 | some k =>
   let p:=kI (l.getD 1 bZ).data
   let r:=l.drop 2
   let q:=if k=4/\r≠[]then kI (r.getD 0 bZ).data else([],0)
   let r':=if k=4 then r.drop 1 else r
   if p.2≠0\/q.2≠0\/1<r'.length then none else
   match r' with
   |[]=>some ⟨k,p.1,q.1,[]⟩
   |x::_=>(xE x.kids).map λa=>⟨k,p.1,q.1,a⟩
theorem To(t:Int)(d:List UInt8)(l:List Nd):R0 (.mk t d l)=ZM l:=rfl
theorem VX(hz:szB 1100000 4 n)(h:K (VZ (R0 n)) L):abw 86 [.agg (ndA n)] L K:=by
 obtain⟨tg,dt,l⟩:=n;rw[bP];rw[To,ZM]at h;obtain⟨_,bd,F⟩:=hz;simp only[Nd.kids]at bd F;by_cases hl:l.length<2\/4<l.length;rw[if_pos hl]at h;simp only[VZ]at h;replace h:=hid h;clear F;rcases hl with h2|h4;have g1:(l.length:Int)<2:=aeu;clear h2;refine abv iM ?_;exact aB (ae rfl h.o);have g1:¬(l.length:Int)<2:=aeu;have g2:(4:Int)<(l.length:Int):=aeu;clear h4;refine abv iM ?_;exact aB (ae rfl h.o);rw[if_neg hl]at h;have g1:¬(l.length:Int)<2:=aeu;have g2:¬(4:Int)<(l.length:Int):=aeu;have g3:(0:Int)<(l.length:Int):=aeu;have g4:(1:Int)<(l.length:Int):=aeu;have g5:(2:Int)<=(l.length:Int):=aeu;have f0:(aC l).getD 1 .undef=.str (l.getD 0 bZ).data:=EO (k:=0) aeu;have f1:(aC l).getD 4 .undef=.str (l.getD 1 bZ).data:=EO (k:=1) aeu;have f2:=io l;have f3:(aC l).drop 6=aC (l.drop 2):=J9 l 2;have b0:1<(aC l).length:=aeu;have b1:4<(aC l).length:=aeu;obtain⟨n0,P⟩:=abr (l.getD 0 bZ);obtain⟨n1,ap⟩:=abr (l.getD 1 bZ);have z0:=Pw (F n0 (by rw[<- P];simp[show 0<l.length by omega]));rw[P]at f0 h;rw[ap]at f1 h;rcases hnum:R8 n0.data with _|k;rw[hnum]at h;simp only[VZ]at h;replace h:=hid h;have kk1:Hid (Ctr Tryz.prog 117 [.str n0.data] (.tup [.int .i64 0,.bool false])):=@hid _ (by intro L K q;exact O7 z0.1 (by rw[hnum];exact q));clear F hnum P ap z0 hl;refine abv iM ?_;exact aB (ae rfl h.o);rw[hnum]at h;simp only at h;have kk1:Hid (Ctr Tryz.prog 117 [.str n0.data] (.tup [.int .i64 k,.bool true])):=@hid _ (by intro L K q;exact O7 z0.1 (by rw[hnum];exact q));obtain⟨⟨V,e1⟩,a0⟩:∃q,kI n1.data=q:=⟨_,rfl⟩;have kk2:Hid (Ctr Tryz.prog 118 [.str n1.data] (.tup [dnA V,.int .i64 e1])):=@hid _ (by intro L K q;exact Tu (by rw[a0];exact q));rw[a0]at h;simp only at h;obtain⟨r,hr⟩:=abr (l.drop 2);have a_:r.length+2=l.length:=by rw[<- hr];simp;omega
 have J:∀x∈r,szB 1100000 3 x:=λx hx=>F x (by rw[<- hr]at hx;exact acY hx)
 rw[hr]at f3 h;have f4:((l.length:Int)).toNat-2=r.length:=aeu;have f5:(aC r).take (r.length*3)=aC r:=by rw[<- io r,abX]
 have f6:l.length-2=r.length:=aeu;clear F hnum P ap z0 hl a0 hr;replace J:=hid J;refine aa iM (by simp[cv]) ?_;simp only[cv,am]
 iterate 42 first
  |refine kY ?_
  | (first|refine jz aew ?_|refine fM aew ?_|refine fP ?_|refine zT ?_|refine nD (fun _=>?_)|refine dP ?_|refine jB ?_|refine kk1.o ?_|refine kk2.o ?_|refine dr (kk1.o ⟨rfl,rfl⟩) (kk1.o ⟨rfl,rfl⟩) ?_|refine dr (kk2.o ⟨rfl,rfl⟩) (kk2.o ⟨rfl,rfl⟩) ?_|refine bp (kk1.o ⟨rfl,rfl⟩) ?_|refine bp (kk2.o ⟨rfl,rfl⟩) ?_)
    simp(config:={maxSteps:=2000000}) only[Kon,push_cast,reduceIte,Nat.reduceEqDiff,Nat.reduceAdd,Nat.reduceMul,Nat.reduceSub,Nat.reduceLT,Nat.reduceLeDiff,Int.reduceLT,Int.reduceLE,Int.reduceAdd,Int.reduceSub,Int.reduceNeg,Int.reduceToNat,Int.reduceEq,reduceCtorEq, *]
  | (first|refine jv aew ?_|refine iN ?_|refine fO ?_|refine jA ?_|refine nI (dO ?_))
    simp only[push_cast,reduceIte,Nat.reduceEqDiff,Nat.reduceAdd,Nat.reduceMul,Nat.reduceSub,Nat.reduceLT,Nat.reduceLeDiff,Int.reduceLT,Int.reduceLE,Int.reduceAdd,Int.reduceSub,Int.reduceNeg,Int.reduceToNat,Int.reduceEq,reduceCtorEq, *]
  |exact nE
  |first|apply nF|apply jw|apply nG|apply jx|apply nH|apply jy
  |refine fS ?_
  |refine fN ?_
  |first|refine fQ rfl ?_|refine fR rfl ?_|refine cE rfl ?_ ?_|refine iD rfl (λ_=>?_) (λ_=>?_)|refine iC rfl (λ_=>?_) (λ_=>?_)
  |((first|refine cD (λ_=>?_) (λ_=>?_)|refine dN (λ_=>?_) (λ_=>?_))<;>try simp(config:={maxSteps:=2000000}) only[Kon,push_cast,reduceIte,Nat.reduceEqDiff,Nat.reduceAdd,Nat.reduceMul,Nat.reduceSub,Nat.reduceLT,Nat.reduceLeDiff,Int.reduceLT,Int.reduceLE,Int.reduceAdd,Int.reduceSub,Int.reduceNeg,Int.reduceToNat,Int.reduceEq,reduceCtorEq, *])
  |refine And.intro trivial ?_
  |refine And.intro aeu ?_
  |refine eQ rfl (λ_=>?_) (λ_=>?_)
  |refine And.intro ?_ ?_
 obtain⟨q,M⟩:=abr ((if k=4/\r≠[]then kI (r.getD 0 bZ).data else([],0)));obtain⟨y,e2⟩:=q;obtain⟨G,t⟩:=abr ((if k=4 then r.drop 1 else r));rw[M,t]at h;simp only at h;have z:∀x∈G,szB 1100000 3 x:=λx hx=>by rw[<- t]at hx;split at hx;exact J.o x (acY hx);exact J.o x hx
 replace h:=hid h;refine Mx (λT2 L2=>∃ct:Option Nat,T2=[(10,.sl (aC G) G.length none),(9,.int .i64 e2),(8,.int .i64 e1),(7,.ptr (L.length+2) 0),(3,.bool false),(2,.ptr (L.length+1) 0)]/\L2=L++[.cells [.int .i64 tg,.str dt,.sl (aC l) l.length none],.cells [.int .i64 0,.sl [] 0 (some 0),.sl [] 0 (some 0),.sl [] 0 (some 0)],.cells [.int .i64 k,dnA V,.sl (y.map aJ) y.length ct,.sl [] 0 (some 0)]]) ?_ ?_
 .clear f0 f1 f2 f3 f4 b0 b1 kk1 kk2;by_cases h4:k=4
  .rw[if_pos h4]at t;by_cases I:r=[]
   .rw[if_neg (λe=>e.2 I)]at M;cases M;subst I;subst t;subst h4;have e0:aC []=[]:=(by rw[aC]);refine wk ?_;exact ym [(10,.sl (aC []) ([]:List Nd).length none),(9,.int .i64 0),(8,.int .i64 e1),(7,.ptr (L.length+2) 0),(3,.bool false),(2,.ptr (L.length+1) 0)] _ (EI (j7 rfl (by rw[e0];rfl) (by repeat' first|exact EE|refine j7 rfl rfl ?_)) aev) ⟨some 0,rfl,rfl⟩
   rw[if_pos ⟨h4,I⟩]at M;have bl:0<r.length:=acr.2 I;have p1:(0:Int)<(r.length:Int):=aeu;have p2:(1:Int)<=(r.length:Int):=aeu;have f0:(aC r).getD 1 .undef=.str (r.getD 0 bZ).data:=EO (k:=0) bl;have f2:=io r;have f3:(aC r).drop 3=aC (r.drop 1):=J9 r 1;have b1:1<(aC r).length:=aeu;have f7:G.length=r.length-1:=(by rw[<- t];simp);have f8:(aC G).take ((r.length-1)*3)=aC G:=(by rw[<- f7,<- io G,abX]);obtain⟨n2,a3⟩:=abr (r.getD 0 bZ);rw[a3]at f0 M;rw[t]at f3;have kk1:Hid (Ctr Tryz.prog 118 [.str n2.data] (.tup [dnA y,.int .i64 e2])):=@hid _ (by intro L K q;exact Tu (by rw[M];exact q));have f9:=cF y;clear M t a3 I;subst h4;refine wk ?_;exact ym _ _ aex ⟨none,rfl,rfl⟩
  rw[if_neg h4]at t;rw[if_neg (λe=>h4 e.1)]at M;cases M;subst t;refine wk ?_;exact ym _ _ aex ⟨some 0,rfl,rfl⟩
 rintro _ _ ⟨ct,rfl,rfl⟩ -;clear M t J f0 f1 f2 f3 f4 f5 f6 b0 b1 kk1 kk2 a_ g1 g2 g3 g4 g5;by_cases B:e1≠0\/e2≠0\/1<G.length;have s:=h.o;rw[if_pos B]at s;simp only[VZ]at s;replace s:=hid s;have hb:e1≠0\/e2≠0\/(1:Int)<(G.length:Int):=aeu;clear h B z;by_cases c1:e1=0;by_cases c2:e2=0;have c3:(1:Int)<(G.length:Int):=aeu;clear hb;subst c1;subst c2;refine wk ?_;exact aB (ae rfl s.o);clear hb;subst c1;refine wk ?_;exact aB (ae rfl s.o);clear hb;refine wk ?_;exact aB (ae rfl s.o);have s:=h.o;rw[if_neg B]at s;have ai:e1=0/\e2=0/\G.length<=1:=aeu;obtain⟨rfl,rfl,a1⟩:=ai;clear h B;rcases G with _|⟨x,r2⟩;simp only[VZ]at s;replace s:=hid s;have e0:aC []=[]:=by rw[aC]
 clear z;refine wk ?_;refine ar (λm T' L'=>m=0/\T'=[(86,.int .i64 0),(85,.int .i64 0),(84,.sl [] 0 none),(7,.ptr (L.length+2) 0),(2,.ptr (L.length+1) 0)]/\L'=L++[.cells [.int .i64 tg,.str dt,.sl (aC l) l.length none],.cells [.int .i64 0,.sl [] 0 (some 0),.sl [] 0 (some 0),.sl [] 0 (some 0)],.cells [.int .i64 k,dnA V,.sl (y.map aJ) y.length ct,.sl [] 0 (some 0)]]) aey ⟨rfl,rfl,rfl⟩ ?_;rintro _ _ _ ⟨rfl,rfl,rfl⟩;refine wk ?_;refine aB ?_;simp only[AV.frz,AV.frzL,cF];refine ae ?_ s.o;simp only[AV.refs,AV.refsL,fV];rfl;have a8:r2=[]:=by simp at a1;exact a1
 subst a8;obtain⟨_,a',Q⟩:=z x aev;clear z a1;simp only at s;obtain⟨g,al⟩:=abr (x.kids);rw[al]at s a' Q;obtain⟨A,hA⟩:=abr (xE g);rw[hA]at s;have C:A=none->K (.tup [.agg [.int .i64 0,.sl [] 0 none,.sl [] 0 none,.sl [] 0 none],.bool false]) L:=λe=>by rw[e]at s;exact s
 have w:∀a,A=some a->K (.tup [.agg [.int .i64 k,dnA V,dnA y,.sl (cj a) a.length none],.bool true]) L:=λa e=>by rw[e]at s;exact s
 have U:aC [x]=[.int .i64 x.tag,.str x.data,.sl (aC g) g.length none]:=by rw[aC,dM,al,aC,ab1]
 rw[U];replace C:=hid C;replace w:=hid w;replace Q:=hid Q;obtain⟨N0,a5⟩:=abr (Blk.cells [.int .i64 tg,.str dt,.sl (aC l) l.length none]);rw[a5];clear s al U a5;refine wk ?_;refine JX (L.length+2) 3 2 (c:=[.int .i64 k,dnA V,.sl (y.map aJ) y.length ct,.sl [] 0 (some 0)]) (l:=[]) (n:=0) aev rfl (acg 2).symm ?_;refine ar (λm T' L'=>∃(i:Nat) (d:List Atr) (D:List AV) (X:List Blk),m=1-i/\i<=1/\Hid (if i=0 then d=[]else A=some d)/\Hid (D=cj d)/\T'=[(86,.int .i64 (i:Int)),(85,.int .i64 1),(84,.sl [.int .i64 x.tag,.str x.data,.sl (aC g) g.length none] 1 none),(7,.ptr (L.length+2) 0),(3,.bool false),(2,.ptr (L.length+1) 0)]/\L'=L++(N0 :: .cells [.int .i64 0,.sl [] 0 (some 0),.sl [] 0 (some 0),.sl [] 0 (some 0)] :: .cells [.int .i64 k,dnA V,.sl (y.map aJ) y.length ct,.gsl D d.length (L.length+3) 2] :: .spare d.length 2::X)) aey ⟨0,[],[],[],rfl,aeu,hid aev,hid rfl,rfl,aev⟩ ?_;rintro _ _ _ ⟨i,d,D,X,rfl,hi,hI,hD,rfl,rfl⟩;by_cases bk:i=0;rotate_left;have a7:i=1:=aeu;subst a7;have an:=hI.o;rw[if_neg aeu]at an;have s:=hid (w.o d an);have N:=hD.o;have e0:=xG d;subst N;clear hI hD an w C;refine wk ?_;refine aB ?_;simp only[AV.frz,AV.frzL,cF,e0];refine ae ?_ s.o;simp only[AV.refs,AV.refsL,fV,xF];rfl;subst bk;have T:=hI.o;rw[if_pos rfl]at T;subst T;have N:=hD.o;have a9:cj []=[]:=rfl;rw[a9]at N;subst N;clear hI hD;refine wk ?_;refine ar (λm T' L'=>∃(d:List Atr) (j:Nat) (D:List AV) (Y:List Blk),m=g.length-j/\j<=g.length/\X.length+1<=Y.length/\Hid ((xE (g.drop j)).map (λr=>d++r)=A)/\Hid (D=cj d/\j=d.length)/\T'=[(93,.int .i64 (j:Int)),(92,.int .i64 g.length),(91,.sl (aC g) g.length none),(86,.int .i64 0),(85,.int .i64 1),(84,.sl [.int .i64 x.tag,.str x.data,.sl (aC g) g.length none] 1 none),(7,.ptr (L.length+2) 0),(3,.bool false),(2,.ptr (L.length+1) 0)]/\L'=L++(N0 :: .cells [.int .i64 0,.sl [] 0 (some 0),.sl [] 0 (some 0),.sl [] 0 (some 0)] :: .cells [.int .i64 k,dnA V,.sl (y.map aJ) y.length ct,.gsl D j (L.length+3) 2] :: .spare j 2::Y)) aey ⟨[],0,[],_,rfl,abJ _,aev,hid (by rw[adP,hA];cases A<;>rfl),hid ⟨rfl,rfl⟩,rfl,rfl⟩ ?_;rintro _ _ _ ⟨d,j,D,Y,rfl,hj,bo,hJ,R,rfl,rfl⟩;by_cases H:j<g.length
 .have j1:(j:Int)<(g.length:Int):=aeu;have j2:=abu j aeu;have e3:=xN H;have e4:j*3+3<=(aC g).length:=(by rw[io];omega);obtain⟨a,ha⟩:=abr (g.getD j bZ);have a4:g.drop j=a::g.drop (j+1):=(by rw[acA H,<- ha];simp[H]);obtain⟨_,bs,a6⟩:=Q.o a (by rw[<- ha];simp[H]);rw[ha,dM]at e3;have f:=hJ.o;rw[a4,xE]at f;clear hJ a4 ha hA;by_cases h2:a.kids.length=2;rotate_left;rw[if_pos h2]at f;have s:=hid (C.o f.symm);have g2:¬(a.kids.length:Int)=2:=aeu;clear f h2 C w;refine wk ?_;exact aB (ae rfl s.o);rw[if_neg aeu]at f;have g2:(a.kids.length:Int)=2:=aeu;have f0:(aC a.kids).getD 1 .undef=.str (a.kids.getD 0 bZ).data:=EO (k:=0) aeu;have f1:(aC a.kids).getD 5 .undef=.sl (aC (a.kids.getD 1 bZ).kids) (a.kids.getD 1 bZ).kids.length none:=UE (k:=1) aeu;have b0:1<(aC a.kids).length:=(by rw[io];omega);have b1:5<(aC a.kids).length:=(by rw[io];omega);obtain⟨nm,a2⟩:=abr ((a.kids.getD 0 bZ).data);obtain⟨u,W⟩:=abr ((a.kids.getD 1 bZ).kids);have bx:u.length<=1100000:=by rw[<- W];exact(Pw (a6 _ (by simp[show 1<a.kids.length by omega]))).2
  rw[a2]at f0 f;rw[W]at f1 f;have av:(xE (g.drop (j+1))).map (λr=>(d++[(nm,vt u)])++r)=A:=by rw[<- f];cases xE (g.drop (j+1))<;>simp
  replace av:=hid av;clear f a2 W a6 C w h2;refine wk ?_;refine JX (L.length+(Y.length+1+1+1+1+1)) 1 1 (c:=[.str nm,.sl [] 0 (some 0)]) (l:=[]) (n:=0) aev rfl (acg 1).symm ?_;refine ar (λm T' L'=>∃(p:Nat) (E:List AV) (Z:List Blk),m=u.length-p/\p<=u.length/\Hid (E=(vt (u.take p)).map AV.str)/\T'=[(114,.int .i64 (p:Int)),(113,.int .i64 u.length),(112,.sl (aC u) u.length none),(15,.ptr (L.length+(Y.length+1+1+1+1+1)) 0),(93,.int .i64 (j:Int)),(92,.int .i64 g.length),(91,.sl (aC g) g.length none),(86,.int .i64 0),(85,.int .i64 1),(84,.sl [.int .i64 x.tag,.str x.data,.sl (aC g) g.length none] 1 none),(7,.ptr (L.length+2) 0),(3,.bool false),(2,.ptr (L.length+1) 0)]/\L'=L++(N0 :: .cells [.int .i64 0,.sl [] 0 (some 0),.sl [] 0 (some 0),.sl [] 0 (some 0)] :: .cells [.int .i64 k,dnA V,.sl (y.map aJ) y.length ct,.gsl D j (L.length+3) 2] :: .spare j 2::(Y++(.cells [.int .i64 a.tag,.str a.data,.sl (aC a.kids) a.kids.length none] :: .cells [.str nm,.gsl E p (L.length+(Y.length+1+1+1+1+1+1)) 1] :: .spare p 1::Z)))) aey ⟨0,[],[],rfl,abJ _,hid rfl,rfl,aev⟩ ?_;rintro _ _ _ ⟨p,E,Z,rfl,hp,hE,rfl,rfl⟩;by_cases O:p<u.length;have p1:(p:Int)<(u.length:Int):=aeu;have p2:=abu p aeu;have e5:=xN O;have e6:p*3+3<=(aC u).length:=(by rw[io];omega);obtain⟨v,hv⟩:=abr (u.getD p bZ);rw[hv,dM]at e5;have ab:(vt (u.take (p+1))).map AV.str=E++[.str v.data]:=by rw[hE.o,ab6 O,show u[p]=v by rw[<- hv];simp[O]];simp[vt]
  replace ab:=hid ab;clear hv hE;refine wk ?_;exact aez aeu aex ⟨p+1,_,Z++[.cells [.int .i64 v.tag,.str v.data,.sl (aC v.kids) v.kids.length none]],rfl,O,hid ab.o.symm,rfl,aev⟩;have bb:p=u.length:=aeu;subst bb;have p1:¬(u.length:Int)<(u.length:Int):=aeu;have S:=hE.o;rw[abX]at S;have e5:AV.frzL E=E:=(by rw[S];exact jo _);have ad:D++[.str nm,.sl E u.length none]=cj (d++[(nm,vt u)]):=by rw[R.o.1,Od,S];simp only[cj,ady,List.flatMap_nil,ab1,atA,vt,abM]
  replace ad:=hid ad;clear hE S;refine wk ?_;refine aez aeu (CutL (b:=by simp;omega)) ⟨d++[(nm,vt u)],j+1,_,_,rfl,H,?_,av,hid ⟨ad.o,by rw[R.o.2];simp⟩,rfl,rfl⟩;simp;omega
 have bn:j=g.length:=aeu;subst bn;have j1:¬(g.length:Int)<(g.length:Int):=aeu;have f:=hJ.o;rw[adH,xE]at f;simp only[abQ,ab1]at f;replace f:=hid f;clear hJ;refine wk ?_;exact aez aeu aex ⟨1,d,D,Y,rfl,aeu,hid (by rw[if_neg aeu];exact f.o.symm),hid R.o.1,rfl,by rw[<- R.o.2]⟩
theorem MG{B C:Nat}(h:B<=C):∀{k:Nat}{n:Nd},szB B k n->szB C k n
 |0,_,hz=>⟨by have:=hz.1;omega,by have:=hz.2;omega⟩
 |_+1,_,hz=>⟨by have:=hz.1;omega,by have:=hz.2.1;omega,λx a=>MG h (hz.2.2 x a)⟩
theorem TE{p:List UInt8->Except Int (Nd×List UInt8)}(g:∀s n r,p s=.ok (n,r)->r.length<s.length):∀(F:Nat) (u:List UInt8) (l:List Nd),pT p F u=.ok l->l.length<=u.length/\∀x∈l,∃v r,v.length<=u.length/\p v=.ok (x,r)
 |0,[],l,h=>by cases h;simp
 |0,_::_,l,h=>by cases h;simp
 |F+1,[],l,h=>by cases h;simp
 | F+1,c::u,l,h=>by
   rw[TF aev]at h;split at h
   .cases h
   rename_i n r d;split at h
   .cases h
   rename_i j i;cases h;have e:=g _ _ _ d;obtain⟨m,k⟩:=TE g F r j i;refine⟨by simp at e⊢;omega,λx f=>?_⟩;rcases abY.1 f with rfl|f
   .exact⟨_,_,abA _,d⟩
   .obtain⟨v,r',a,b⟩:=k x f;exact⟨v,r',aeu,b⟩
theorem We:∀(f:Nat){s:List UInt8}{n:Nd}{r:List UInt8},mU f s=.ok (n,r)->∀k,szB s.length k n
 |0,s,n,r,h,k=>by cases h
 | f+1,s,n,r,h,k=>by
   rw[mU]at h;split at h
   .cases h
   simp only at h;split at h
   .cases h
   split at h
   .cases h
   rename_i size a g;split at h
   .cases h
   rename_i d;split at h
   .cases h;cases k with
    |zero=>exact⟨by simp only[Nd.data,acv,acK];omega,by simp[Nd.kids]⟩
    |succ k=>exact⟨by simp only[Nd.data,acv,acK];omega,by simp[Nd.kids],λx b=>by simp[Nd.kids]at b⟩
   split at h
   .cases h
   .rename_i ks hm;cases h;obtain⟨j,e⟩:=TE (λs n r=>Wf) _ _ _ hm;have l:((s.drop a).take size).length<=s.length:=(by simp only[acv,acK];omega);cases k with
    |zero=>exact⟨by simp[Nd.data],by simp only[Nd.kids];omega⟩
    | succ k =>
      refine⟨by simp[Nd.data],by simp only[Nd.kids];omega,λx b=>?_⟩;obtain⟨v,i,m,c⟩:=e x b;exact MG aeu (We f c k)
theorem Vw(h:LM s=.ok n)(k:Nat):szB s.length k n:=by unfold LM at h;split at h;cases h;rename_i b r a;split at h;cases h;exact We _ a k;cases h
theorem TV{B:Nat}:∀{l:List Nd}{a:List Atr},xE l=some a->(∀x∈l,szB B 2 x)->a.length<=l.length/\∀y∈a,y.1.length<=B/\y.2.length<=B/\∀v∈y.2,v.length<=B
 |[],a,h,_=>by cases h;simp
 | x::l,a,h,hz=>by
   rw[xE]at h;split at h
   .cases h
   rename_i k;rw[abZ]at h;obtain⟨r,e,rfl⟩:=h;obtain⟨m,j⟩:=TV e λy b=>hz y (by simp[b])
   refine⟨by simp;omega,λy b=>?_⟩;rcases abY.1 b with rfl|b
   .obtain⟨_,_,hk⟩:=hz x aev;have d:=Pw (hk (x.kids.getD 0 bZ) (by simp[show 0<x.kids.length by omega]));obtain⟨_,f,g⟩:=hk (x.kids.getD 1 bZ) (by simp[show 1<x.kids.length by omega]);refine⟨d.1,by simpa[vt]using f,λv c=>?_⟩;simp only[vt,abB]at c;obtain⟨w,i,rfl⟩:=c;exact(Pw (g w i)).1
   .exact j y b
theorem ZL{u:Upd}(I:s.length<=1100000)(z:LM s=.ok n)(b:R0 n=some u):dnB u.dn/\dnB u.tw/\vf u:=by
 obtain⟨t,d,l⟩:=n;obtain⟨_,_,o⟩:=Vw z 4;simp only[Nd.kids]at o;rw[To,ZM]at b;split at b;cases b;split at b;cases b;rename_i k m;simp only at b;have g:∀s,dnB (kI s).1:=λs=>⟨by have:=(Tw s).1;omega,λr hr=>by have:=(Tw s).2 r hr;omega⟩
 have e:dnB (if k=4/\l.drop 2≠[]then kI ((l.drop 2).getD 0 bZ).data else([],0)).1:=by split;exact g _;exact⟨aev,aev⟩
 have p:∀x∈(if k=4 then(l.drop 2).drop 1 else l.drop 2),x∈l:=λx f=>by split at f;exact acY (acY f);exact acY f
 obtain⟨q,h⟩:=abr ((if k=4/\l.drop 2≠[]then kI ((l.drop 2).getD 0 bZ).data else([],0)));obtain⟨j,c⟩:=abr ((if k=4 then(l.drop 2).drop 1 else l.drop 2));rw[h,c]at b;rw[h]at e;rw[c]at p;by_cases i:(kI (l.getD 1 bZ).data).2≠0\/q.2≠0\/1<j.length;rw[if_pos i]at b;cases b;rw[if_neg i]at b;rcases j with _|⟨x,K⟩;cases b;exact⟨g _,e,aev,aev⟩;simp only at b;rw[abZ]at b;obtain⟨a,w,rfl⟩:=b;obtain⟨_,F,A⟩:=o x (p x aev);obtain⟨H,B⟩:=TV w A;refine⟨g _,e,⟨by simp only;omega,λy E=>?_⟩⟩;obtain⟨G,J,C⟩:=B y E;exact⟨aeu,aeu,λv D=>by have:=C v D;omega⟩
def rdA(p:Upd×Int):AV:=.tup [.agg (gp p.1),.int .i64 p.2]
theorem ZO(t:s.length<=1100000)(h:K (rdA (rdU s)) L):abw 58 [.str s] L K:=by
 have b:∀e,rdU s=(QJ,e)->K (.tup [.agg [.int .i64 0,.sl [] 0 none,.sl [] 0 none,.sl [] 0 none],.int .i64 e]) L:=λe p=>by rw[p]at h;exact h
 rcases hw:LM s with e|n;have i:=hid (b e (by rw[rdU,hw]));have p:=XT hw;have kk1:Hid (Ctr Tryz.prog 85 [.str s] (.tup [.agg [.int .i64 0,.str [],.sl [] 0 none],.int .i64 e])):=@hid _ (by intro L K q;exact S9 aeu (by rw[hw];exact q));clear b hw h;refine abv fh ?_;exact aB (ae rfl i.o);have kk1:Hid (Ctr Tryz.prog 85 [.str s] (.tup [.agg [.int .i64 n.tag,.str n.data,.sl (aC n.kids) n.kids.length none],.int .i64 0])):=@hid _ (by intro L K q;exact S9 aeu (by rw[hw,ZB,dM];exact q));have j:szB 1100000 4 n:=MG aeu (Vw hw 4);rcases hy:R0 n with _|u;have i:=hid (b 4 (by rw[rdU,hw];simp only[hy]));have kk2:Hid (Ctr Tryz.prog 86 [.agg [.int .i64 n.tag,.str n.data,.sl (aC n.kids) n.kids.length none]] (.tup [.agg [.int .i64 0,.sl [] 0 none,.sl [] 0 none,.sl [] 0 none],.bool false])):=@hid _ (by intro L K q;rw[<- dM];exact VX j (by rw[hy];exact q));clear b hw h hy j;refine abv fh ?_;exact aB (ae rfl i.o);obtain⟨hd,l,k⟩:=ZL t hw hy;have g:aaD u:=⟨hd,l,by have:=k.1;omega,λa v=>by have:=(k.2 a v).2.1;omega⟩;have kk2:Hid (Ctr Tryz.prog 86 [.agg [.int .i64 n.tag,.str n.data,.sl (aC n.kids) n.kids.length none]] (.tup [.agg (gp u),.bool true])):=@hid _ (by intro L K q;rw[<- dM];exact VX j (by rw[hy];exact q));obtain⟨⟨w,e⟩,c⟩:∃q,wrU u=q:=⟨_,rfl⟩;have kk3:Hid (Ctr Tryz.prog 14 [.agg (gp u)] (.tup [.str w,.int .i64 e])):=@hid _ (by intro L K q;exact Pu hd l k (by rw[c];exact q));have d:rdU s=if e≠0\/w≠s then(QJ,4)else(kX u,0):=by rw[rdU,hw];simp only[hy,c]
 by_cases f:e≠0\/w≠s;have i:=hid (b 4 (by rw[d,if_pos f]));clear b hw h hy j d c g hd l k;by_cases r:e=0;have x:¬w=s:=by rcases f with m|m;exact absurd r m;exact m
 clear f;subst r;refine abv fh ?_;exact aB (ae rfl i.o);clear f;refine abv fh ?_;exact aB (ae rfl i.o);rw[d,if_neg f,rdA]at h;simp only[not_or,ne_eq,adQ]at f;obtain⟨rfl,rfl⟩:=f;have kk4:Hid (Ctr Tryz.prog 87 [.agg (gp u)] (.agg (gp (kX u)))):=@hid _ (by intro L K q;exact aae g q);replace h:=hid h;clear b hw hy j d c g hd l k;refine abv fh ?_;exact ae (by simp only[AV.refs,AV.refsL,fV,xF];rfl) h.o
end Go.Proofs.YtajkbcmleihaoaaGreatDoor.Av
set_option maxRecDepth 100000
namespace Go.Proofs.YtajkbcmleihaoaaGreatDoor.Av
open Go
def DD:LSO:=[AH 4,Ab 5 0]
def DC:LSO:=[Aa 13 1,Af 14 21 13,Aa 12 14,Al 15 12,Am 16 12,Aa 6 15,Aa 7 16]
def DB:LSO:=[Aa 17 7,Ax 18 17 0]
def Dz:LSO:=[Aa 19 7,AH 4,Aa 5 19]
def Dy:LSO:=[Aa 21 0,Af 22 22 21,Aa 20 22,Al 23 20,Am 24 20,AP 25 20,Aa 8 23,Aa 9 24,Aa 7 25]
def Dx:LSO:=[Aa 26 7,Ax 27 26 0]
def Dw:LSO:=[Aa 28 7,AH 4,Aa 5 28]
def Dv:LSO:=[Aa 30 6,Aa 31 9,Ay 32 23 30 31,Aa 29 32,Al 33 29,Am 34 29,Aa 10 33,Aa 11 34]
def Du:LSO:=[Aa 35 11,Ax 36 35 0]
def Dt:LSO:=[Aa 37 11,AH 4,Aa 5 37]
def yz:LSO:=[Aa 38 6,Ae 39 38,Ad 40 0 39,Ac 41 1 40,Aa 42 6,Aa 43 8,
 o1 44 (.build [.nilptr,.nilptr,.nilptr,(.bool false)] [(0,(1,(tm 41))),(1,(1,(tm 42))),(2,(1,(tm 43)))]),A3 45 44,Aa 4 45,Ab 5 0]
def fw:aI:=⟨46,(aen DD [] (aen DC Cd (.seq (aen DB BU (aep 18 (.sreg Dz Ca))) (aen Dy Ci (.seq (aen Dx BU (aep 27 (.sreg Dw Ca))) (.seq (aen Dv Cb (aen Du BU (aep 36 (.sreg Dt Ca)))) (aen yz Cm .ret))))))),[(.tmp 4),(.tmp 5)]⟩
attribute [push_cast] DD DC DB Dz Dy Dx Dw Dv Du Dt yz
theorem ny:aes 7=aet fw:=aew
def qU:LSO:=[A3 3 1,Ab 4 0,Ab 5 0]
def qT:LSO:=[Aa 10 0,A6 11 10,Aa 9 11]
def qS:LSO:=[Ab 4 1,Ab 5 1]
def qR:LSO:=[Aa 13 0,Ae 14 13,Ad 15 3 14,Ac 16 1 15,Aa 12 16]
def qQ:LSO:=[Ab 4 80,Ab 5 12]
def qP:LSO:=[Aa 17 0,Ae 18 17,Ad 19 1 18,Ac 20 1 19,Ae 21 20,Ad 22 0 21,Ac 23 1 22,A0 24 4 3,Ay 25 13 23 24,Aa 6 25]
def qO:LSO:=[Aa 26 6,Ax 27 26 0]
def qN:LSO:=[Aa 28 6,Aa 4 28,Ab 5 0]
def qM:LSO:=[A0 30 4 3,Af 31 14 30,Aa 29 31,Al 32 29,Am 33 29,Aa 7 32,Aa 8 33]
def qL:LSO:=[Aa 34 8,Ax 35 34 0,Aa 36 35,.grp none 36 false
 [Ai 37 36 7,BA 38 36 37,AI 39 36 38 262144]
 40 (tm 39)]
def oZ:LSO:=[Ab 4 80,Ab 5 0]
def oY:LSO:=[Aa 41 0,Ae 42 41,Ad 43 2 42,Ac 44 1 43,Aa 45 7,Ay 46 28 44 45,Aa 8 46]
def oX:LSO:=[Aa 47 8,Az 48 47 11]
def oW:List (aj×Kd):=
 [An 49 0,A1 50 49 0 0,Ap 51 2 50,Aq 52 1 51 0 0,An 53 0,A1 54 53 0 0,Ap 55 1 54,Aq 56 1 55 0 0,A1 57 56 0 0,Ap 58 0 57,Aq 59 1 58 0 0,AN 60 30 59 0 0]
def mF:List aj :=
 [⟨(some 61),(.call 29 [(tm 52),(tm 60)]),none⟩,⟨(some 8),(.mv (tm 61)),none⟩]
def oV:LSO:=[Aa 62 8,Az 63 62 0]
def oU:LSO:=[Aa 64 0,Ae 65 64,Ad 66 2 65,Ac 67 1 66,Aa 68 7,Ay 69 28 67 68,Aa 8 69]
def oT:LSO:=[Aa 70 8]
def oS:LSO:=[Az 72 70 0,Aa 71 72]
def oR:List (aj×Kd):=
 [An 73 0,A1 74 73 0 0,Ap 75 1 74,Aq 76 1 75 0 0,BO 77 4 3 0 0]
def mE:List aj :=
 [⟨(some 78),(.call 31 [(tm 76),(tm 77)]),none⟩,⟨(some 4),(.mv (tm 78)),none⟩,⟨(some 5),(.mv (iv 0)),none⟩]
def oQ:LSO:=[Az 80 70 11,Aa 79 80]
def oP:LSO:=[Az 81 70 5,Aa 79 81]
def oO:LSO:=[Ab 4 80,Ab 5 0]
def oN:LSO:=[Aa 82 0,Ae 83 82,Ad 84 3 83,o0 (.store 1 (tm 84) (.av (.bool true)))]
def oM:LSO:=[Aa 85 8,Ab 4 80,Aa 5 85]
def bv:aI:=⟨86,(aen qU [] (.seq (.block 0 (aen qT BV (aeo 9 (aen qS [] .ret) (aen qR BX (aep 12 (.sreg qQ [])))))) (.seq (.seq (.sdreg qP [.pure,(.read 0 0),.pure,(.read 0 0),(.read 0 0),.pure,(.read 0 0),(.read 0 0)] Cc) (aen qO BU (aep 27 (.sreg qN Ca)))) (aen qM Cd (.seq (aen qL BW (aep 40 (.sreg oZ []))) (aen oY BY (.seq (aen oX BU (aeo 48 (.seq (.dregM oW mF CC) (aen oV BU (aeo 63 (.sreg oU BY) .skip))) .skip)) (.seq (aen oT [] (.block 1 (aen oS BU (aeo 71 (.seq (.dregM oR mE Ch) .ret) (.seq (aen oQ BU (aeo 79 .skip (.sreg oP BU))) (aep 79 (.sreg oO []))))))) (aen oN Ck (aen oM Ca .ret)))))))))),[(.tmp 4),(.tmp 5)]⟩
attribute [push_cast] qU qT qS qR qQ qP qO qN qM qL oZ oY oX oW mF oV oU oT oS oR mE oQ oP oO oN oM
theorem eP:aes 11=aet bv:=aew
def gE:LSO:=[Ab 2 0]
def gD:LSO:=[Aa 5 0,A6 6 5,Aa 4 6]
def gC:LSO:=[Ab 2 1]
def gz:LSO:=[Aa 8 0,Ae 9 8,Ad 10 3 9,Ac 11 1 10,Aa 7 11]
def gy:LSO:=[Ab 2 12]
def gx:List (aj×Kd):=
 [An 12 0,A1 13 12 0 0,Ap 14 2 13,Aq 15 1 14 0 0,An 16 0,A1 17 16 0 0,Ap 18 1 17,Aq 19 1 18 0 0,A1 20 19 0 0,Ap 21 0 20,Aq 22 1 21 0 0,AN 23 30 22 0 0]
def gh:List aj :=
 [⟨(some 24),(.call 29 [(tm 15),(tm 23)]),none⟩,⟨(some 3),(.mv (tm 24)),none⟩]
def gw:LSO:=[Aa 25 0,Aa 26 3,Ax 27 26 0,Aa 28 27,.grp none 28 true
 [Ak 29 28 3,Bt 30 28 29 11]
 31 (tm 30),Aa 32 31,.grp none 32 true
 [Ak 33 32 3,Bt 34 32 33 5]
 35 (tm 34),Ae 36 25,Ad 37 3 36,Ag 1 37 35]
def gu:LSO:=[Aa 38 3,Aa 2 38]
def eu:aI:=⟨39,(aen gE [] (.seq (.block 0 (aen gD BV (aeo 4 (aen gC [] .ret) (aen gz BX (aep 7 (.sreg gy [])))))) (.seq (.dregM gx gh CC) (aen gw C6 (aen gu BU .ret))))),[(.tmp 2)]⟩
attribute [push_cast] gE gD gC gz gy gx gh gw gu
theorem qc:aes 17=aet eu:=aew
def mD:LSO:=[Ab 2 0]
def mC:LSO:=[Aa 3 0,A6 4 3]
def mB:LSO:=[Ab 2 0]
def mA:LSO:=[Aa 5 0,Ae 6 5,Ad 7 2 6,Ac 8 1 7,Af 9 48 8,Aa 2 9]
def jH:aI:=⟨10,(aen mD [] (.seq (aen mC BU (aep 4 (.sreg mB []))) (aen mA BZ .ret))),[(.tmp 2)]⟩
attribute [push_cast] mD mC mB mA
theorem zY:aes 18=aet jH:=aew
def oL:LSO:=[Ab 2 0]
def oK:LSO:=[Aa 3 0,A6 4 3]
def oJ:LSO:=[Ab 2 0]
def oI:LSO:=[Aa 5 0,Ae 6 5,Ad 7 2 6,Ac 8 1 7,Af 9 49 8,Aa 2 9]
def kS:aI:=⟨10,(aen oL [] (.seq (aen oK BU (aep 4 (.sreg oJ []))) (aen oI BZ .ret))),[(.tmp 2)]⟩
attribute [push_cast] oL oK oJ oI
theorem Ex:aes 19=aet kS:=aew
def wB:LSO:=[Ao 0]
def wz:LSO:=[o1 1 (.build [(.str []),(.str [])] [(0,(1,(.av (.str [100,99])))),(1,(1,(.av (.str [122]))))]),
 o1 2 (.bslice false 2 1 [(.str []),(.str [])] [(0,(2,(tm 1)))]),Bg 3 2,Aa 0 3]
def rY:aI:=⟨4,(aen wB [] (aen wz BW .ret)),[(.tmp 0)]⟩
attribute [push_cast] wB wz
theorem JL:aes 8=aet rY:=aew
def zL:LSO:=[As 0]
def zK:LSO:=[o1 8 (.call 6 [(iv 40)]),Aa 1 8]
def zJ:LSO:=[Aa 10 1,o1 11 (.call 8 []),Ay 12 7 10 11,Aa 9 12,Al 13 9,Am 14 9,Aa 2 13,Aa 3 14]
def zI:LSO:=[Aa 15 3,Ax 16 15 0,Aa 17 16,.grp none 17 false
 [Ai 18 17 2,BQ 19 17 18]
 20 (tm 19)]
def zH:LSO:=[As 0]
def zG:LSO:=[Aa 22 2,o1 23 (.call 8 []),o1 24 (.build [(.int .i64 0),(.sl [] 0 (some 0)),(.sl [] 0 (some 0)),(.sl [] 0 (some 0))] [(0,(1,(iv 1))),(1,(1,(tm 23)))]),
 Ay 25 11 22 24,Aa 21 25,Al 26 21,Am 27 21,Aa 4 26,Aa 5 27]
def zF:LSO:=[Aa 28 1,o1 29 (.build [(.int .u64 0),(.int .i64 0),(.int .i64 0)] [(1,(1,(iv (-1))))]),Ay 30 24 28 29]
def zE:LSO:=[Aa 32 1,o1 33 (.call 8 []),Ay 34 7 32 33,Aa 31 34,Al 35 31,Am 36 31,Aa 6 35,Aa 7 36]
def zD:LSO:=[Aa 37 4,Az 38 37 0,Aa 39 38,.grp none 39 true
 [Ak 40 39 5,AC 41 39 40 0]
 42 (tm 41),Aa 43 42,.grp none 43 true
 [Ak 44 43 7,AC 45 43 44 0]
 46 (tm 45),Aa 47 46,.grp none 47 true
 [Ak 48 47 6,og 49 47 true (.eqk true .ptr (tm 48) (.av .nilptr))]
 50 (tm 49),Aa 51 50,.grp none 51 true
 [Ak 52 51 6,B6 53 51 52,AT 54 51 0 53,AO 55 51 1 54,Bq 56 51 25 55,AC 57 51 56 1]
 58 (tm 57),Aa 59 58,.grp none 59 true
 [Ak 60 59 6,B6 61 59 60,AT 62 59 0 61,AO 63 59 1 62,og 64 59 true (.call 8 []),og 65 59 true (.call 26 [(tm 63),(tm 64)]),AC 66 59 65 1]
 67 (tm 66),Aa 0 67]
def vn:aI:=⟨68,(aen zL [] (aen zK BU (aen zJ Ch (.seq (aen zI BW (aep 20 (.sreg zH []))) (aen zG Cl (aen zF Ck (aen zE Ch (.seq (.sdreg zD [.pure,.pure,.pure,.pure,.pure,.pure,.pure,.pure,.pure,.pure,.pure,.pure,.pure,.pure,.pure,.pure,(.read 0 0),.pure,(.read 0 0),(.read 0 0),.pure,.pure,.pure,.pure,(.read 0 0),.pure,(.read 0 0),(.read 0 0)] CB) .ret)))))))),[(.tmp 0)]⟩
attribute [push_cast] zL zK zJ zI zH zG zF zE zD
theorem Kr:aes 9=aet vn:=aew
def rf:LSO:=[As 0]
def re:LSO:=[AH 1]
def rd:LSO:=[Aa 9 1,AY 10,Ay 11 11 9 10,Aa 8 11,Al 12 8,Am 13 8,Aa 2 12,Aa 3 13]
def ra:LSO:=[o1 15 (.call 8 []),o1 16 (.call 7 [(.av .nilptr),(tm 15)]),Aa 14 16,Al 17 14,Am 18 14,Aa 4 17,Aa 5 18]
def q9:LSO:=[o1 20 (.call 6 [(iv 40)]),Bv 21 7 20,Aa 19 21,Al 22 19,Am 23 19,Aa 6 22,Aa 7 23]
def q0:LSO:=[o1 24 (.call 9 []),Aa 25 24,.grp none 25 true
 [Ak 26 25 2,AC 27 25 26 1]
 28 (tm 27),Aa 29 28,.grp none 29 true
 [Ak 30 29 3,AC 31 29 30 1]
 32 (tm 31),Aa 33 32,.grp none 33 true
 [Ak 34 33 1,Bq 35 33 17 34,AC 36 33 35 1]
 37 (tm 36),Aa 38 37,.grp none 38 true
 [Ak 39 38 1,Bq 40 38 18 39,AC 41 38 40 0]
 42 (tm 41),Aa 43 42,.grp none 43 true
 [Ak 44 43 1,Bq 45 43 19 44,AC 46 43 45 0]
 47 (tm 46),Aa 48 47,.grp none 48 true
 [Ak 49 48 5,AC 50 48 49 1]
 51 (tm 50),Aa 52 51,.grp none 52 true
 [Ak 53 52 7,AC 54 52 53 2]
 55 (tm 54),Aa 0 55]
def lW:aI:=⟨56,(aen rf [] (aen re [] (aen rd Ch (aen ra BY (aen q9 BY (aen q0 [true,false,false,false,false,false,false,false,false,false,false,false,false,false,false,false] .ret)))))),[(.tmp 0)]⟩
attribute [push_cast] rf re rd ra q9 q0
theorem E6:aes 5=aet lW:=aew
attribute [push_cast] fw bv eu jH kS rY vn lW
end Go.Proofs.YtajkbcmleihaoaaGreatDoor.Av
