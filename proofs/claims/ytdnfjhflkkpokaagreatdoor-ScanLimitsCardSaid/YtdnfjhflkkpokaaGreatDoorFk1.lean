/- Joined texts of the walk, made small by a program. -/
import Derived.Calls
import Derived.Orders
import Derived.OrdersIn
import Derived.OwnWalkIn
import Derived.RangeFuncRecord
import Derived.KernelRfl
import GoSem.PinnedTables
import Derived.WalkKit
set_option linter.unusedSimpArgs false
set_option linter.unusedVariables false
namespace Go.Proofs.YtdnfjhflkkpokaaGreatDoor.Av
open Go
variable {p:Prop}{b i n sz off:Nat}{a:Act}{v:Value}{w w' w0:World}{P:Program}
theorem asP(h:p:=by omega):p:=h
theorem asQ(h:p:=by simp):p:=h
theorem asR(h:p:=by kernel_rfl):p:=h
theorem apl{α : Sort _}(a : α): ∃x, a = x := ⟨_, rfl⟩
theorem apm{α : Type _}{l m : List α}{i : Nat}{b : α}(h : l[i]? = some b): (l ++ m)[i]? = some b := by rw[List.getElem?_append_left (List.getElem?_eq_some_iff.1 h).1];exact h
abbrev aps:=@List.getElem?_eq_some_iff
abbrev apt:=@Nat.le_refl
abbrev apu:=@Option.some.injEq
abbrev apv:=@Nat.zero_le
abbrev apw:=@Bool.and_eq_true
abbrev apx:=@List.getElem?_append_left
abbrev apy:=@List.mem_append
abbrev apz:=@List.mem_map
abbrev apA:=@Sem.run_bind
abbrev apB:=@List.length_append
abbrev apC:=@List.length_cons
abbrev apD:=@List.getElem?_eq_getElem
abbrev apE:=@Result.andThen_ok
abbrev apF:=@List.all_eq_true
abbrev apG:=@List.append_assoc
abbrev apH:=@List.getElem?_append_right
abbrev apI:=@Prod.mk.injEq
abbrev apJ:=@List.take_length
abbrev apK:=@List.take_succ_eq_append_getElem
abbrev apL:=@Bool.false_eq_true
abbrev apM:=@List.getElem?_set_ne
abbrev apN:=@Option.map_some
abbrev apO:=@List.getD_eq_getElem?_getD
abbrev apP:=@List.mem_cons
abbrev apQ:=@List.length_map
abbrev apR:=@Nat.le_trans
abbrev apS:=@List.map_map
abbrev apT:=@List.mem_singleton
abbrev apU:=@Nat.zero_mul
abbrev apV:=@Nat.lt_or_ge
abbrev apW:=@List.set_append_right
abbrev apX:=@List.map_cons
abbrev apY:=@List.drop_eq_getElem_cons
abbrev apZ:=@List.nil_append
abbrev ap0:=@Bool.true_and
abbrev ap1:=@List.map_append
abbrev ap2:=@List.take_of_length_le
abbrev ap3:=@List.getElem?_set
abbrev ap4:=@List.append_nil
abbrev ap5:=@List.flatMap_cons
abbrev ap6:=@Option.map_eq_some_iff
abbrev ap7:=@Sem.run_pure
abbrev ap8:=@List.mem_filter
abbrev ap9:=@List.length_nil
abbrev aqa:=@List.cons_append
abbrev aqb:=@Option.map_none
abbrev aqc:=@List.length_eq_zero_iff
abbrev aqd:=@Bool.not_eq_true'
abbrev aqe:=@List.drop_length
abbrev aqf:=@Bool.or_eq_true
abbrev aqg:=@Bool.false_and
abbrev aqh:=@Array.getElem?_eq_some_iff
abbrev aqi:=@List.length_pos_iff
abbrev aqj:=@List.mem_of_getElem?
abbrev aqk:=@List.getElem?_map
abbrev aql:=@Option.getD_some
abbrev aqm:=@List.getElem?_cons_zero
abbrev aqn:=@List.mem_iff_getElem
abbrev aqo:=@List.getElem?_drop
abbrev aqp:=@Array.getElem?_eq_getElem
abbrev aqq:=@List.not_mem_nil
abbrev aqr:=@List.getElem_mem
abbrev aqs:=@List.getElem?_take_of_lt
abbrev aqt:=@List.foldl_cons
abbrev aqu:=@List.getElem?_cons_succ
abbrev aqv:=@List.contains_eq_mem
abbrev aqw:=@Nat.mul_le_mul_right
abbrev aqx:=@Nat.add_assoc
abbrev aqy:=@Nat.add_mul
abbrev aqz:=@Nat.add_zero
abbrev aqA:=@Nat.zero_add
abbrev aqB:=@List.set_append_left
abbrev aqC:=@List.pairwise_iff_getElem
abbrev aqD:=@Nat.lt_of_lt_of_le
abbrev aqE:=@List.all_cons
abbrev aqF:=@Option.bind_some
abbrev aqG:=@Bool.false_or
abbrev aqH:=@List.mem_append_left
abbrev aqI:=@List.nodup_cons
abbrev aqJ:=@List.map_congr_left
abbrev aqK:=@List.length_take
abbrev aqL:=@List.length_filter_le
abbrev aqM:=@List.length_reverse
abbrev aqN:=@Bool.true_eq_false
abbrev aqO:=@List.getElem?_append
abbrev aqP:=@Array.getElem?_push_lt
abbrev aqQ:=@Nat.eq_zero_or_pos
abbrev aqR:=@Nat.sub_self
abbrev aqS:=@List.set_cons_succ
abbrev aqT:=@List.length_drop
abbrev aqU:=@List.mem_cons_of_mem
abbrev aqV:=@Array.getD_eq_getD_getElem?
abbrev aqW:=@List.contains_iff_mem
abbrev aqX:=@List.take_zero
abbrev aqY:=@List.filterMap_append
abbrev aqZ:=@List.any_eq_true
abbrev aq0:=@List.any_eq_false
abbrev aq1:=@List.pairwise_cons
abbrev aq2:=@List.find?_eq_none
abbrev aq3:=@Option.bind_eq_some_iff
abbrev aq4:=@List.take_succ_cons
abbrev aq5:=@List.take_append_drop
abbrev aq6:=@List.drop_eq_nil_of_le
abbrev aq7:=@Bool.not_eq_true
abbrev aq8:=@List.mergeSort_perm
abbrev aq9:=@List.lt_irrefl
abbrev ara:=@List.map_nil
abbrev arb:=@List.sum_cons
abbrev arc:=@List.length_tail
abbrev ard:=@List.getElem?_eq_none
abbrev arf:=@List.mem_iff_getElem?
abbrev arg:=@Bool.not_true
abbrev arh:=@List.mem_append_right
abbrev ari:=@Bool.true_or
abbrev arj:=@List.getD_cons_zero
abbrev ark:=@UInt8.toNat_inj
abbrev arl:=@List.mem_of_find?_eq_some
abbrev arm:=@List.find?_some
abbrev arn:=@List.findIdx?_cons
abbrev aro:=@List.drop_of_length_le
abbrev arp:=@Array.getElem?_modify
abbrev arq:=@Int.not_lt
abbrev arr:=@List.ext_getElem?
abbrev ars:=@List.find?_cons
abbrev art:=@List.all_nil
abbrev aru:=@Nat.sub_zero
abbrev arv:=@Bool.or_false
abbrev arw:=@List.drop_zero
abbrev arx:=@Bool.and_self
abbrev ary:=@Int.tmod_eq_emod_of_nonneg
abbrev arz:=@List.eq_nil_or_concat
abbrev arA:=@List.not_lt
abbrev arB:=@List.suffix_refl
abbrev arC:=@List.suffix_cons
abbrev arD:=@List.tail_suffix
abbrev arE:=@Nat.not_lt_zero
abbrev arF:=@List.getElem?_set_self
abbrev arG:=@Nat.succ_mul
abbrev arH:=@Option.getD_none
abbrev arI:=@List.getElem?_toArray
abbrev arJ:=@Bool.and_true
abbrev arK:=@List.mem_zipIdx_iff_getElem?
abbrev arL:=@Nat.lt_trichotomy
abbrev arM:=@List.getD_cons_succ
abbrev arN:=@List.drop_succ_cons
abbrev arO:=@Bool.or_eq_false_iff
abbrev arP:=@List.foldl_append
abbrev arQ:=@Function.comp_apply
abbrev arR:=@List.nodup_append
abbrev arS:=@Bool.eq_iff_iff
abbrev arT:=@List.flatMap_append
abbrev arU:=@List.foldl_nil
abbrev arV:=@Array.getElem?_setIfInBounds
abbrev arW:=@Bool.not_false
abbrev arX:=@List.singleton_append
abbrev arY:=@World.putObj_heap_other
abbrev arZ:=@Bool.decide_and
abbrev ar0:=@Bool.and_false
abbrev ar1:=@Bool.or_true
abbrev ar3:=@Bool.and_eq_false_iff
abbrev ar4:=@List.any_append
abbrev ar5:=@List.any_cons
abbrev ar6:=@Decidable.not_not
abbrev ar7:=@List.mem_map_of_mem
abbrev ar8:=@List.getElem_take
abbrev ar9:=@List.concat_eq_append
abbrev asa:=@List.drop_one
abbrev asb:=@List.map_take
abbrev asc:=@Int.le_refl
abbrev asd:=@List.mem_of_mem_take
abbrev ase:=@List.mapM_cons
abbrev asf:=@ByteArray.toList_mk
abbrev asg:=@Option.isSome_none
abbrev ash:=@List.drop_drop
abbrev asi:=@Option.mem_toList
abbrev asj:=@Array.getElem?_append_left
abbrev ask:=@Bool.decide_or
abbrev asl:=@Option.isSome_some
abbrev asm:=@List.getElem?_of_mem
abbrev asn:=@List.all_append
abbrev aso:=@List.pairwise_map
abbrev asp:=@Int.fdiv_eq_ediv_of_nonneg
abbrev asq:=@List.le_antisymm
abbrev asr:=@List.getElem_drop
abbrev ass:=@List.pairwise_mergeSort
abbrev ast:=@List.flatten_cons
abbrev asu:=@List.flatten_nil
abbrev asv:=@List.filter_append
abbrev asw:=@List.length_mergeSort
abbrev asx:=@Bool.eq_false_iff
abbrev asy:=@List.flatMap_nil
abbrev asz:=@Bool.and_assoc
abbrev asA:=@Array.getElem?_toList
abbrev asB:=@List.countP_eq_zero
abbrev asC:=@List.length_singleton
abbrev asD:=@List.mem_or_eq_of_mem_set
abbrev asE:=@List.take_append_of_le_length
abbrev asF:=@Int.tdiv_eq_ediv_of_nonneg
abbrev asG:=@List.pairwise_append
abbrev asH:=@List.Perm.eq_of_pairwise
inductive AV where
 |undef
 |bool (b:Bool)
 |anyb
 |int (k:IntKind) (n:Int)
 |str (l:List UInt8)
 |nilptr
 |gptr (g off:Nat)
 |ptr (i off:Nat)
 |iptr (l:List AV) (off:Nat)
 |nilsl
 |sl (l:List AV) (n:Nat) (cap:Option Nat)
 |lsl (i off len:Nat) (cap:Option Nat) (sz:Nat)
 |gsl (l:List AV) (n i sz:Nat)
 |nilmap
 |lmap (i:Nat)
 |yld (i:Nat)
 |func (f:FuncId) (caps:List AV)
 |nilfunc
 |nilif
 |iface (t:TypeId) (v:AV)
 |agg (l:List AV)
 |tup (l:List AV)
 deriving Inhabited
variable {l vals:List AV}
structure Loc where
 blk:Nat
 off:Nat
 size:Nat
variable {c:Loc}
structure Tok where
 pos:Nat
 sz:Nat
 loc:Option Loc
structure SB where
 S:Nat->Prop
 B:Nat
variable {S0:SB}
instance:CoeFun SB (fun _=>Nat->Prop):=⟨SB.S⟩
structure Env where
 mem:Nat->Nat->Option Value
 loc:Nat->Option Loc
 tok:Nat->Option Tok
variable {E E':Env}
mutual
def VR(E:Env):AV->Value->Prop
 |.undef,_=>True
 |.bool b,v=>v=.bool b
 |.anyb,v=>∃b,v=.bool b
 |.int k n,v=>v=.int k n
 |.str l,v=>v=.string ⟨⟨l⟩⟩
 |.nilptr,v=>v=.pointer none
 |.gptr g off,v=>v=.pointer (some ⟨g,off,none⟩)
 |.ptr i off,v=>∃c,E.loc i=some c/\v=.pointer (some ⟨c.blk,c.off+off,none⟩)
 |.iptr l off,v=>∃b o,v=.pointer (some ⟨b,o+off,none⟩)/\VRC E l b o
 |.nilsl,v=>v=.slice none 0 0
 |.sl l n cap,v=>∃p c,v=.slice p n c/\n<=c/\(∀k,cap=some k->c=k)/\((n=0/\c=0/\l=[])\/∃b o,p=some ⟨b,o,none⟩/\VRC E l b o)
 |.lsl i off len cap sz,v=>∃c rc d,E.loc i=some c/\v=.slice (some ⟨c.blk,d,none⟩) len rc/\(rc≠0->d=c.off+off)/\len<=rc /\
  (∀k,cap=some k->rc=k)/\c.off+off+rc*sz<=c.size
 |.gsl l n i sz,v=>∃p c,v=.slice p n c/\n<=c/\l.length=n*sz/\((n=0/\c=0/\l=[])\/∃b o,p=some ⟨b,o,none⟩/\VRC E l b o) /\
  ∃t,E.tok i=some t/\n<=t.pos/\(n=t.pos->t.sz=sz/\(t.loc=none->c=n)/\∀k,t.loc=some k->p=some ⟨k.blk,0,none⟩/\c*sz<=k.size)
 |.nilmap,v=>v=.map none
 |.lmap i,v=>∃c,E.loc i=some c/\v=.map (some c.blk)
 |.yld i,v=>∃c,E.loc i=some c/\v=.func (.yield c.blk) #[] #[]
 |.func f caps,v=>∃vs,v=.func (.func f) #[] ⟨vs⟩/\VRL E caps vs
 |.nilfunc,v=>v=.nilFunc
 |.nilif,v=>v=.nilIface
 |.iface t a,v=>∃x,v=.iface t x/\VR E a x
 |.agg l,v=>∃vs,v=.agg ⟨vs⟩/\VRL E l vs
 |.tup l,v=>∃vs,v=.tuple ⟨vs⟩/\VRL E l vs
def VRL(E:Env):List AV->List Value->Prop
 |[],vs=>vs=[]
 |a::l,vs=>∃x xs,vs=x::xs/\VR E a x/\VRL E l xs
def VRC(E:Env):List AV->Nat->Nat->Prop
 |[],_,_=>True
 |a::l,b,o=>(∃x,E.mem b o=some x/\VR E a x)/\VRC E l b (o+1)
end
structure Env.le(E E':Env):Prop where
 mem:∀b o v,E.mem b o=some v->E'.mem b o=some v
 loc:∀i c,E.loc i=some c->E'.loc i=some c
 tok:∀i t,E.tok i=some t->∃t',E'.tok i=some t'/\(t'=t\/t.pos<t'.pos)
theorem Env.le.refl(E:Env):E.le E:=⟨λ_ _ _ h=>h,λ_ _ h=>h,λ_ t h=>⟨t,h,.inl rfl⟩⟩
theorem Env.le.trans{A B C:Env}(h:A.le B)(k:B.le C):A.le C:=⟨λb o v x=>k.mem b o v (h.mem b o v x),λi c x=>k.loc i c (h.loc i c x),λi t x=>by obtain⟨f,e,a⟩:=h.tok i t x;obtain⟨t2,d,h4⟩:=k.tok i f e;refine⟨t2,d,?_⟩;rcases a with rfl|a<;>rcases h4 with rfl|h4;exact .inl rfl;exact .inr h4;exact .inr a;exact .inr (Nat.lt_trans a h4)⟩
mutual
theorem VR.mono{E E':Env}(h:E.le E'):∀(a:AV) (v:Value),VR E a v->VR E' a v
 |.undef,_,_=>by simp[VR]
 |.bool _,_,r=>by simpa[VR]using r
 |.anyb,_,r=>by simpa[VR]using r
 |.int _ _,_,r=>by simpa[VR]using r
 |.str _,_,r=>by simpa[VR]using r
 |.nilptr,_,r=>by simpa[VR]using r
 |.gptr _ _,_,r=>by simpa[VR]using r
 |.ptr i off,v,r=>by simp only[VR]at r⊢;obtain⟨c,g,j⟩:=r;exact⟨c,h.loc _ _ g,j⟩
 |.iptr l off,v,r=>by simp only[VR]at r⊢;obtain⟨b,o,g,j⟩:=r;exact⟨b,o,g,VRC.mono h l b o j⟩
 |.nilsl,_,r=>by simpa[VR]using r
 |.sl l n cap,v,r=>by simp only[VR]at r⊢;obtain⟨p,c,g,j,q,h4⟩:=r;exact⟨p,c,g,j,q,h4.imp id λ⟨b,o,m,k⟩=>⟨b,o,m,VRC.mono h l b o k⟩⟩
 | .gsl l n i sz,v,r=>by
   simp only[VR]at r⊢;obtain⟨p,c,g,j,q,h4,t,m,k,w⟩:=r;obtain⟨t',y,s⟩:=h.tok _ _ m;refine⟨p,c,g,j,q,h4.imp id λ⟨b,o,m,k⟩=>⟨b,o,m,VRC.mono h l b o k⟩,t',y,?_⟩;rcases s with rfl|s
   .exact⟨k,w⟩
   .exact⟨asP,λe=>asP⟩
 |.lsl i off len cap sz,v,r=>by simp only[VR]at r⊢;obtain⟨c,u,d,g,j⟩:=r;exact⟨c,u,d,h.loc _ _ g,j⟩
 |.nilmap,_,r=>by simpa[VR]using r
 |.lmap i,v,r=>by simp only[VR]at r⊢;obtain⟨c,g,j⟩:=r;exact⟨c,h.loc _ _ g,j⟩
 |.yld i,v,r=>by simp only[VR]at r⊢;obtain⟨c,g,j⟩:=r;exact⟨c,h.loc _ _ g,j⟩
 |.func f caps,v,r=>by simp only[VR]at r⊢;obtain⟨vs,g,j⟩:=r;exact⟨vs,g,VRL.mono h caps vs j⟩
 |.nilfunc,_,r=>by simpa[VR]using r
 |.nilif,_,r=>by simpa[VR]using r
 |.iface t a,v,r=>by simp only[VR]at r⊢;obtain⟨x,g,j⟩:=r;exact⟨x,g,VR.mono h a x j⟩
 |.agg l,v,r=>by simp only[VR]at r⊢;obtain⟨vs,g,j⟩:=r;exact⟨vs,g,VRL.mono h l vs j⟩
 |.tup l,v,r=>by simp only[VR]at r⊢;obtain⟨vs,g,j⟩:=r;exact⟨vs,g,VRL.mono h l vs j⟩
theorem VRL.mono{E E':Env}(h:E.le E'):∀(l:List AV) (vs:List Value),VRL E l vs->VRL E' l vs
 |[],_,r=>by simpa[VRL]using r
 |a::l,vs,r=>by simp only[VRL]at r⊢;obtain⟨x,xs,d,c,b⟩:=r;exact⟨x,xs,d,VR.mono h a x c,VRL.mono h l xs b⟩
theorem VRC.mono{E E':Env}(h:E.le E'):∀(l:List AV) (b o:Nat),VRC E l b o->VRC E' l b o
 |[],_,_,_=>by simp[VRC]
 |a::l,b,o,r=>by simp only[VRC]at r⊢;obtain⟨⟨x,e,d⟩,c⟩:=r;exact⟨⟨x,h.mem _ _ _ e,VR.mono h a x d⟩,VRC.mono h l b (o+1) c⟩
end
theorem VRL.length{E:Env}:∀{l:List AV}{vs:List Value},VRL E l vs->vs.length=l.length
 |[],_,r=>by simp only[VRL]at r;subst r;rfl
 |a::l,vs,r=>by obtain⟨x,xs,rfl,_,b⟩:=r;simp[VRL.length b]
theorem VRL.get{E:Env}:∀{l:List AV}{vs:List Value}{i:Nat}{a:AV},VRL E l vs->l[i]?=some a->∃v,vs[i]?=some v/\VR E a v
 |[],_,_,_,_,h=>by simp at h
 | a::l,vs,i,x,r,h=>by
   obtain⟨y,d,rfl,c,b⟩:=r;cases i with
   |zero=>simp at h;subst h;exact⟨y,asQ,c⟩
   |succ i=>simp at h;simpa using VRL.get b h
theorem VRL.of_get{E:Env}:∀{l:List AV}{vs:List Value},vs.length=l.length->(∀(i:Nat) (a:AV),l[i]?=some a->∃v,vs[i]?=some v/\VR E a v)->VRL E l vs
 |[],vs,hl,_=>by have:vs=[]:=(by cases vs<;>simp_all);simp[VRL,this]
 | a::l,vs,hl,h=>by
   cases vs with
   |nil=>simp at hl
   | cons x xs =>
     refine⟨x,xs,rfl,?_,VRL.of_get (by simpa using hl) λi b c=>by simpa using h (i+1) b (by simpa using c)⟩;obtain⟨v,e,d⟩:=h 0 a asQ;simp_all
theorem VRC.get{E:Env}:∀{l:List AV}{b o i:Nat}{a:AV},VRC E l b o->l[i]?=some a->∃v,E.mem b (o+i)=some v/\VR E a v
 |[],_,_,_,_,_,h=>by simp at h
 | a::l,b,o,i,x,r,h=>by
   obtain⟨⟨y,e,d⟩,c⟩:=r;cases i with
   |zero=>simp at h;subst h;exact⟨y,by simpa using e,d⟩
   | succ i =>
     obtain⟨v,h4,f⟩:=VRC.get c h
     grind
theorem VRC.of_get{E:Env}:∀{l:List AV}{b o:Nat},(∀(i:Nat) (a:AV),l[i]?=some a->∃v,E.mem b (o+i)=some v/\VR E a v)->VRC E l b o
 |[],_,_,_=>by simp[VRC]
 | a::l,b,o,h=>by
   refine⟨by simpa using h 0 a asQ,VRC.of_get λi x c=>?_⟩;have:=h (i+1) x (by simpa using c)
   grind
theorem VRC.drop{o:Nat}(n:Nat)(h:VRC E l b o):VRC E (l.drop n) b (o+n):=
 VRC.of_get λi a c=>by
  rw[aqo]at c;have:=h.get c
  grind
theorem VRC.take{o:Nat}(n:Nat)(h:VRC E l b o):VRC E (l.take n) b o :=
 VRC.of_get λi a c=>by rw[List.getElem?_take]at c;split at c;exact h.get c;simp_all
theorem VRL.append{E:Env}:∀{l m:List AV}{vs b:List Value},VRL E l vs->VRL E m b->VRL E (l++m) (vs++b)
 |[],_,_,_,h,k=>by simp only[VRL]at h;subst h;simpa using k
 |a::l,m,vs,b,h,k=>by obtain⟨x,xs,rfl,d,c⟩:=h;exact⟨x,xs++b,rfl,d,VRL.append c k⟩
def AV.one:AV->Bool
 |.undef|.agg _|.tup _=>false
 |_=>true
def AV.cells:AV->List AV
 |.agg l=>l
 |a=>[a]
def Value.one:Value->Bool
 |.agg _|.tuple _=>false
 |_=>true
theorem VR.one{a:AV}(h:VR E a v)(b:a.one=true):Value.one v=true:=by
 cases a<;>simp only[AV.one,apL]at b<;>simp only[VR]at h
 all_goals first
  |(subst h;rfl)
  |(obtain⟨_,_,h,_⟩:=h;subst h;rfl)
  |(obtain⟨_,h,_⟩:=h;subst h;rfl)
  |(obtain⟨_,_,_,h,_⟩:=h;subst h;rfl)
  |(obtain⟨_,h⟩:=h;subst h;rfl)
  |(obtain⟨_,_,h⟩:=h;subst h;rfl)
  |(obtain⟨_,_,_,_,h,_⟩:=h;subst h;rfl)
  |skip
def ajZ:List AV:=[.int .u64 1,.int .u64 10,.int .u64 100,.int .u64 1000,.int .u64 10000,.int .u64 100000,.int .u64 1000000,.int .u64 10000000,.int .u64 100000000,.int .u64 1000000000,.int .u64 10000000000,.int .u64 100000000000,.int .u64 1000000000000,.int .u64 10000000000000,.int .u64 100000000000000,.int .u64 1000000000000000,.int .u64 10000000000000000,.int .u64 100000000000000000,.int .u64 1000000000000000000,.int .u64 10000000000000000000]
def afA:List AV:=[.int .u8 128,.int .u8 191,.int .u8 160,.int .u8 191,.int .u8 128,.int .u8 159,.int .u8 144,.int .u8 191,.int .u8 128,.int .u8 143,.int .u8 0,.int .u8 0,.int .u8 0,.int .u8 0,.int .u8 0,.int .u8 0,.int .u8 0,.int .u8 0,.int .u8 0,.int .u8 0,.int .u8 0,.int .u8 0,.int .u8 0,.int .u8 0,.int .u8 0,.int .u8 0,.int .u8 0,.int .u8 0,.int .u8 0,.int .u8 0,.int .u8 0,.int .u8 0]
def ajY:List AV:=[.iface 321 (.undef)]
def ajX:List AV:=[.iface 321 (.undef)]
def ajW:List AV:=[.int .i64 31,.int .i64 28,.int .i64 31,.int .i64 30,.int .i64 31,.int .i64 30,.int .i64 31,.int .i64 31,.int .i64 30,.int .i64 31,.int .i64 30,.int .i64 31]
def afz:List AV:=Go.Pinned.utf8FirstZ.map λ(n:Nat)=>AV.int .u8 (Int.ofNat n)
def OP:List (Nat×List AV):=[(6,ajZ),(1,afA),(5,ajY),(4,ajX),(2,ajW),(0,afz)]
def VV:List Nat:=[3]
def gb(g:Nat):Option (List AV):=(OP.find? λp=>p.1 == g).map (·.2)
theorem akc:gb 6=some ajZ:=by rfl
attribute [push_cast] akc
theorem akb:gb 1=some afA:=by rfl
attribute [push_cast] akb
theorem aka:gb 5=some ajY:=by rfl
attribute [push_cast] aka
theorem aj9:gb 4=some ajX:=by rfl
attribute [push_cast] aj9
theorem aem:gb 2=some ajW:=by rfl
attribute [push_cast] aem
theorem aj8:gb 0=some afz:=by rfl
attribute [push_cast] aj8
def tN(m:Nat->Nat->Option Value):Prop:=(∀p∈OP,VRC ⟨m,λ_=>none,λ_=>none⟩ p.2 p.1 0)/\∀g∈VV,∃z,m g 0=some (.int .i64 z)
theorem tN.mono{m a:Nat->Nat->Option Value}(h:tN m)(c:∀b o v,m b o=some v->a b o=some v):tN a:=⟨λp e =>
 VRC.mono ⟨c,(λ_ _ x=>by cases x),(λ_ _ x=>by cases x)⟩ _ _ _ (h.1 p e),λg d=>by
 obtain⟨z,f⟩:=h.2 g d;exact⟨z,c _ _ _ f⟩⟩
theorem tN.env(h:tN E.mem){p:Nat×List AV}(a:p∈OP):VRC E p.2 p.1 0 :=
 VRC.mono (E:=⟨E.mem,λ_=>none,λ_=>none⟩) (E':=E) ⟨λ_ _ _ x=>x,(λ_ _ x=>by cases x),(λ_ _ x=>by cases x)⟩ _ _ _ (h.1 p a)
def wj(w:World):Prop:=∀p∈OP,p.2≠[]->∃cs ty fr,w.heap[p.1]?=some (.cells cs ty fr)/\cs.size=p.2.length
theorem wj.push(h:wj w)(o:Obj):wj {w with heap:=w.heap.push o}:=λp b a=>by
 obtain⟨cs,ty,fr,d,c⟩:=h p b a
 grind
theorem wj.keep{m:Nat->Nat->Option Value}(h:wj w)(e:tN m)(j:∀b,(∃v,m b 0=some v)->w'.heap[b]?=w.heap[b]?):wj w':=λp d c=>by
 obtain⟨cs,ty,fr,i,f⟩:=h p d c;have:=e.1 p d;obtain⟨g,l⟩:=p;cases l with
 |nil=>exact absurd rfl c
 | cons a l =>
   simp only[VRC]at this
   grind
theorem wj.mod(h:wj w)(j:∀(b:Nat) (cs:Array Value) (ty:TypeId) (fr:Nat×Nat),w.heap[b]?=some (Obj.cells cs ty fr)->∃(a:Array Value) (d:TypeId) (c:Nat×Nat),w'.heap[b]?=some (Obj.cells a d c)/\a.size=cs.size):wj w':=λp f e=>by
 obtain⟨cs,ty,fr,i,g⟩:=h p f e
 grind
theorem ET{g:Nat}(h:gb g=some l):(g,l)∈OP:=by
 simp only[gb,ap6]at h
 grind
abbrev Tm:=List (Nat×AV)
variable {T:Tm}
def ay:Tm->Nat->Option AV
 |[],_=>none
 |(d,v)::T,t=>if d=t then some v else ay T t
theorem N4:∀{T:Tm}{t:Nat}{v:AV},ay T t=some v->(t,v)∈T
 |[],_,_,h=>by simp[ay]at h
 | (d,u)::T,t,v,h=>by
   simp only[ay]at h;split at h
   .simp_all
   .exact aqU _ (N4 h)
inductive Blk where
 |dead
 |cells (l:List AV)
 |map (es:List (AV×AV×Nat)) (ck:Nat)
 |miter (m:Option Nat) (since:Nat) (seen:List Nat) (last:Nat)
 |siter (s:List UInt8) (pos:Nat)
 |bytes (l:List AV)
 |spare (n sz:Nat)
 |lrec (T:Tm) (n:Nat) (fn:FuncId) (ps:List Nat) (ca cb:Code) (busy:Bool)
 deriving Inhabited
variable {k:Blk}{L L':List Blk}
def Blk.live:Blk->Bool
 |.dead=>false
 |.spare _ _=>false
 |_=>true
def aI(E:Env):List (AV×AV×Nat)->List MapEntry->Prop
 |[],es=>es=[]
 |(k,x,b)::l,es=>∃e r,es=e::r/\VR E k e.key/\VR E x e.val/\e.born=b/\aI E l r
def MIt(E:Env):Option Nat->Option Nat->Prop
 |none,r=>r=none
 |some j,r=>∃d,E.loc j=some d/\r=some d.blk
def bZ(E:Env)(w:World)(i:Nat):Blk->Prop
 |.dead=>True
 |.cells l=>∃c cs ty fr,E.loc i=some c/\w.heap[c.blk]?=some (.cells cs ty fr)/\cs.size=c.size/\c.off+l.length<=c.size /\
  (∀j a,l[j]?=some a->∃v,cs[c.off+j]?=some v/\VR E a v)/\(∀o,c.off<=o->o<=c.size->¬(fr.1<=o/\o<fr.2))
 |.bytes l=>∃c cs ty fr,E.loc i=some c/\w.heap[c.blk]?=some (.cells cs ty fr)/\cs.size=c.size/\c.off+l.length<=c.size /\
  (∀j a,l[j]?=some a->∃v,cs[c.off+j]?=some v/\VR E a v)/\(∀o,c.off<=o->o<c.size->¬(fr.1<=o/\o<fr.2))
 |.map es ck=>∃c rs,E.loc i=some c/\w.heap[c.blk]?=some (.map rs ck)/\aI E es rs.toList
 |.miter m since seen last=>∃c r,E.loc i=some c/\w.heap[c.blk]?=some (.mapIter r since ⟨seen⟩ last)/\c.off=0/\MIt E m r
 |.siter s pos=>∃c,E.loc i=some c/\w.heap[c.blk]?=some (.stringIter ⟨⟨s⟩⟩ pos)/\c.off=0
 |.lrec T n fn ps ca cb busy=>∃c D tm,E.loc i=some c/\w.heap[c.blk]?=some (.loop {state:=if busy then .busy else .ready,pending:=none,fn:=fn,tmps:=tm,params:=⟨ps⟩,assign:=ca,body:=cb,defers:=D})/\c.off=0/\tm.size=n/\∀t v,ay T t=some v->VR E v (tm.getD t undef)
 |.spare n sz=>∃t,E.tok i=some t/\t.pos=n/\t.sz=sz/\∀k,t.loc=some k->∃cs ty fr,w.heap[k.blk]?=some (.cells cs ty fr)/\cs.size=k.size/\(∀o,n*sz<=o->o<k.size->¬(fr.1<=o/\o<fr.2))
structure Rel(w0:World)(S0:SB)(E:Env)(L:List Blk)(w:World):Prop where
 mem:∀b o v,E.mem b o=some v->w.cell? ⟨b,o,none⟩=some v
 blk:∀i k,L[i]?=some k->bZ E w i k
 fresh:∀i,L.length<=i->E.loc i=none
 own:∀i k c,L[i]?=some k->k.live=true->E.loc i=some c->(∀o,E.mem c.blk o=none)/\(S0 c.blk\/w0.heap.size<=c.blk)
 inj:∀i j k k' c c',L[i]?=some k->k.live=true->L[j]?=some k'->k'.live=true->E.loc i=some c->E.loc j=some c'->c.blk=c'.blk->i=j
 tkfresh:∀i,L.length<=i->E.tok i=none
 tkown:∀i n sz t k,L[i]?=some (.spare n sz)->E.tok i=some t->t.loc=some k->(∀o,n*sz<=o->E.mem k.blk o=none)/\(S0 k.blk\/w0.heap.size<=k.blk)
 tkloc:∀i n sz t k j k' c,L[i]?=some (.spare n sz)->E.tok i=some t->t.loc=some k->L[j]?=some k'->k'.live=true->E.loc j=some c->c.blk≠k.blk
 tkinj:∀i n sz t k i' n' sz' t' k',L[i]?=some (.spare n sz)->E.tok i=some t->t.loc=some k->L[i']?=some (.spare n' sz')->E.tok i'=some t'->t'.loc=some k'->k.blk=k'.blk->i=i'
 frame:∀k,k<w0.heap.size->¬S0 k->w.heap[k]?=w0.heap[k]?
 size:w0.heap.size<=w.heap.size
 os:w.os=w0.os
 tape:w.tape=w0.tape
 output:w.output=w0.output
 glob:tN E.mem
 gsz:wj w
theorem aI.mono{E E':Env}(h:E.le E'):∀{l:List (AV×AV×Nat)}{es:List MapEntry},aI E l es->aI E' l es
 |[],_,r=>by simpa[aI]using r
 |(k,x,b)::l,es,r=>by obtain⟨e,t,d,c,a,h4,f⟩:=r;exact⟨e,t,d,VR.mono h _ _ c,VR.mono h _ _ a,h4,aI.mono h f⟩
theorem MIt.mono(h:E.le E'){m r:Option Nat}(a:MIt E m r):MIt E' m r:=by
 cases m with
 |none=>exact a
 |some j=>obtain⟨d,c,b⟩:=a;exact⟨d,h.loc _ _ c,b⟩
theorem bZ.mono'(h:E.le E'):∀{k:Blk},k.live=true->bZ E w i k->bZ E' w i k
 |.dead,q,_=>by simp[Blk.live]at q
 |.spare _ _,q,_=>by simp[Blk.live]at q
 |.cells l,_,r=>by obtain⟨c,cs,ty,fr,b,d,e,h4,f,g⟩:=r;exact⟨c,cs,ty,fr,h.loc _ _ b,d,e,h4,λj a o=>let ⟨v,x,y⟩:=f j a o;⟨v,x,VR.mono h _ _ y⟩,g⟩
 |.map es ck,_,r=>by obtain⟨c,rs,b,d,e⟩:=r;exact⟨c,rs,h.loc _ _ b,d,aI.mono h e⟩
 |.miter m since seen last,_,r=>by obtain⟨c,q,b,d,e,h4⟩:=r;exact⟨c,q,h.loc _ _ b,d,e,h4.mono h⟩
 |.siter s pos,_,r=>by obtain⟨c,b,d⟩:=r;exact⟨c,h.loc _ _ b,d⟩
 |.lrec T n fn ps ca cb busy,_,r=>by obtain⟨c,D,tm,b,d,e,h4,f⟩:=r;exact⟨c,D,tm,h.loc _ _ b,d,e,h4,λt v p=>VR.mono h _ _ (f t v p)⟩
 |.bytes l,_,r=>by obtain⟨c,cs,ty,fr,b,d,e,h4,f,g⟩:=r;exact⟨c,cs,ty,fr,h.loc _ _ b,d,e,h4,λj a o=>let ⟨v,x,y⟩:=f j a o;⟨v,x,VR.mono h _ _ y⟩,g⟩
theorem bZ.mono(h:E.le E')(a:k.live=true)(r:bZ E w i k):bZ E' w i k:=by
 cases k<;>simp only[Blk.live,apL]at a
 all_goals exact bZ.mono' h (by rfl) r
theorem bZ.world(h:∀c,E.loc i=some c->w'.heap[c.blk]?=w.heap[c.blk]?)(a:∀t c,E.tok i=some t->t.loc=some c->w'.heap[c.blk]?=w.heap[c.blk]?)(r:bZ E w i k):bZ E w' i k:=by
 cases k<;>simp only[bZ]at r⊢
 grind
 grind
 grind
 grind
 grind
 grind
 grind
theorem bZ.worldL(a:k.live=true)(h:∀c,E.loc i=some c->w'.heap[c.blk]?=w.heap[c.blk]?)(r:bZ E w i k):bZ E w' i k:=by
 cases k<;>simp only[Blk.live,apL]at a<;>simp only[bZ]at r⊢
 grind
 grind
 grind
 grind
 grind
 grind
theorem bZ.still{j:Nat}(a:k.live=false)(b:E'.tok j=E.tok i)(d:∀t c n sz,k=.spare n sz->E.tok i=some t->t.loc=some c->w'.heap[c.blk]?=w.heap[c.blk]?)(r:bZ E w i k):bZ E' w' j k:=by
 cases k<;>simp only[Blk.live,aqN]at a<;>simp only[bZ]at r⊢
 grind
theorem bZ.loc(r:bZ E w i k)(a:k.live=true):∃c o,E.loc i=some c/\w.heap[c.blk]?=some o:=by
 cases k<;>simp only[bZ,Blk.live,apL]at r a
 grind
 grind
 grind
 grind
 grind
 grind
def TR(E:Env)(T:Tm)(a:Act):Prop:=∀t v,ay T t=some v->VR E v (a.tmps.getD t undef)
theorem TR.mono(h:E.le E')(r:TR E T a):TR E' T a:=λt v b=>VR.mono h _ _ (r t v b)
theorem TR.put{d:Nat}{x:AV}(r:TR E T a)(f:d<a.tmps.size)(c:VR E x v):TR E ((d,x)::T) (a.put (some d) v):=by intro t y b;simp only[ay]at b;simp only[Act.put];split at b;simp_all;rename_i e;have:=r t y b;simp_all
theorem TR.weak{T':Tm}(r:TR E T a)(h:∀t v,ay T' t=some v->ay T t=some v):TR E T' a:=λt v b=>r t v (h t v b)
theorem Env.le_loc(c:Loc)(h:E.loc n=none):E.le {E with loc:=λi=>if i=n then some c else E.loc i}:=
 ⟨λ_ _ _ x=>x,λi d x=>by show(if i=n then some c else E.loc i)=some d;split;rename_i e;subst e;rw[h]at x;cases x;exact x,λ_ t h=>⟨t,h,.inl rfl⟩⟩
theorem SV{o:Obj}(h:w.cell? ⟨b,i,none⟩=some v):World.cell? {w with heap:=w.heap.push o} ⟨b,i,none⟩=some v:=by
 simp only[World.cell?]at h⊢
 grind
theorem Rel.mem_lt(h:Rel w0 S0 E L w){o:Nat}(c:E.mem b o=some v):b<w.heap.size:=by have:=h.mem _ _ _ c;rcases apV b w.heap.size with a|a;omega;simp[World.cell?,Array.getElem?_eq_none a]at this
theorem Rel.loc_lt(h:Rel w0 S0 E L w)(b:L[i]?=some k)(a:k.live=true)(d:E.loc i=some c):c.blk<w.heap.size:=by
 obtain⟨c',o,f,e⟩:=(h.blk i k b).loc a
 grind
theorem Rel.tok_lt(h:Rel w0 S0 E L w){t:Tok}(a:L[i]?=some (.spare n sz))(f:E.tok i=some t)(b:t.loc=some c):c.blk<w.heap.size:=by
 obtain⟨t',e,_,_,d⟩:=h.blk i _ a
 grind
theorem iK(a:k.live=true)(h:(L++[k])[i]?=some (.spare n sz)):L[i]?=some (.spare n sz):=by
 rw[aqO]at h;split at h;omega;rcases apV (i-L.length) 1 with b|b;have:i-L.length=0:=asP;rw[this]at h;simp at h;subst h;simp[Blk.live]at a
 grind
theorem gp(a:∀n sz,k≠.spare n sz){j:Nat}(h:(L.set i k)[j]?=some (.spare n sz)):L[j]?=some (.spare n sz):=by grind
theorem Rel.push(h:Rel w0 S0 E L w)(o:Obj)(k:Blk)(c:Loc)(Z:c.blk=w.heap.size)(p:k.live=true)(Y:bZ {E with loc:=λi=>if i=L.length then some c else E.loc i} {w with heap:=w.heap.push o} L.length k):
  E.le {E with loc:=λi=>if i=L.length then some c else E.loc i} /\
  Rel w0 S0 {E with loc:=λi=>if i=L.length then some c else E.loc i} (L++[k]) {w with heap:=w.heap.push o}:=by
 have S:E.loc L.length=none:=h.fresh _ (apt _);have z:=Env.le_loc c S;have O:∀(i:Nat) (k':Blk),L[i]?=some k'->i≠L.length:=λi k' e=>by grind
 have M:∀i n sz t d,(L++[k])[i]?=some (.spare n sz)->E.tok i=some t->t.loc=some d->L[i]?=some (.spare n sz)/\d.blk<w.heap.size:=λi n sz t d m s l=>⟨iK p m,h.tok_lt (iK p m) s l⟩
 refine⟨z,⟨λb J v Q=>SV (h.mem b J v Q),?_,?_,?_,?_,λi m=>h.tkfresh i (by simp at m;omega),λi n sz t d m s l=>h.tkown i n sz t d (iK p m) s l,?_,
  λi n sz t d R U G t' W m s l u I y e=>h.tkinj i n sz t d R U G t' W (iK p m) s l (iK p u) I y e,?_,?_,h.os,h.tape,h.output,h.glob,h.gsz.push o⟩⟩
 intro i k' a;rw[aqO]at a;split at a;have B:=h.blk i k' a;rcases q:k'.live with _|_;exact bZ.still (E:=E) q rfl (λt d n sz e s l=>aqP (h.tok_lt (e▸a) s l) |>.trans (aqp _).symm) B;refine bZ.worldL q (λd l=>?_) (bZ.mono z q B);have y:E.loc i=some d:=by simp_all
 exact aqP (h.loc_lt a q y) |>.trans (aqp _).symm
 grind
 intro i m;simp at m;show(if i=L.length then some c else E.loc i)=none;rw[if_neg asP];exact h.fresh i asP;intro i k' d a q l;have l:(if i=L.length then some c else E.loc i)=some d:=l;split at l;cases l;refine⟨λJ=>?_,.inr (by have:=h.size;omega)⟩;rcases hm:E.mem c.blk J with _|v;rfl;have:=h.mem_lt hm;omega;rename_i m;rw[aqO]at a;split at a;exact h.own i k' d a q l;rename_i u;rcases apV (i-L.length) 1 with B|B;omega;rw[ard (by simpa using B)]at a;cases a;intro i j H K P c2 m q x A f g T;have f:(if i=L.length then some c else E.loc i)=some P:=f;have g:(if j=L.length then some c else E.loc j)=some c2:=g;have old:∀(i:Nat) (k':Blk),(L++[k])[i]?=some k'->i≠L.length->L[i]?=some k':=λi k' a N=>by rw[aqO]at a;split at a;exact a;rw[ard (by simp;omega)]at a;cases a
 by_cases D:i=L.length<;>by_cases F:j=L.length;omega;rw[if_pos D]at f;rw[if_neg F]at g;cases f;have:=h.loc_lt (old j K x F) A g;omega;rw[if_neg D]at f;rw[if_pos F]at g;cases g;have:=h.loc_lt (old i H m D) q f;omega;rw[if_neg D]at f;rw[if_neg F]at g;exact h.inj i j H K P c2 (old i H m D) q (old j K x F) A f g T;intro i n sz t d j k' c' m s l x q r;have r:(if j=L.length then some c else E.loc j)=some c':=r;obtain⟨u,V⟩:=M i n sz t d m s l;split at r;cases r;omega;rename_i N;rw[aqO]at x;split at x;exact h.tkloc i n sz t d j k' c' u s l x q r;rw[ard (by simp;omega)]at x;cases x;intro k' C X;have:=h.frame k' C X;rw[<- this];exact aqP (aqD C h.size) |>.trans (aqp _).symm;simp;have:=h.size;omega
theorem Rel.turn{k':Blk}(h:Rel w0 S0 E L w)(y:L[i]?=some k)(F:k.live=true)(N:E.loc i=some c)(hs:w'.heap.size=w.heap.size)(G:∀b,b≠c.blk->w'.heap[b]?=w.heap[b]?)(U:w'.os=w.os)(V:w'.tape=w.tape)(W:w'.output=w.output)(hb:bZ E w' i k')(m:∀n sz,k'≠.spare n sz):Rel w0 S0 E (L.set i k') w':=by
 have hi:i<L.length:=(aps.1 y).1;have r:=h.own i k c y F N;refine⟨λb o v u=>?_,?_,λj a=>h.fresh j (by simpa using a),?_,?_,λj a=>h.tkfresh j (by simpa using a),λj n sz t d a=>h.tkown j n sz t d (gp m a),λj n sz t d B g C a x p s f q=>?_,
  λj n sz t d j' n' H t' d' a x p J=>h.tkinj j n sz t d j' n' H t' d' (gp m a) x p (gp m J),?_,by rw[hs];exact h.size,U.trans h.os,V.trans h.tape,W.trans h.output,h.glob,h.gsz.keep h.glob (λb ⟨v,u⟩=>G b λe=>by subst e;rw[r.1 0]at u;cases u)⟩
 have z:b≠c.blk:=λe=>by subst e;rw[r.1 o]at u;cases u
 have:=h.mem b o v u;simp only[World.cell?]at this⊢;simp_all;intro j g a;rw[ap3]at a;split at a;simp_all;rename_i z;rcases f:g.live with _|_;exact bZ.still f rfl (λt d n sz e x p=>G d.blk λQ=>h.tkloc j n sz t d i k c (e▸a) x p y F N Q.symm) (h.blk j g a);exact bZ.worldL f (λd p=>G d.blk λe=>z (h.inj i j k g c d y F a f N p e.symm)) (h.blk j g a);intro j g d a f p;rw[ap3]at a;split at a;simp_all;exact h.own j g d a f p;intro O B R g d1 C S l1 h2 l2 M q Z;have A:∀(j:Nat) (g:Blk),(L.set i k')[j]?=some g->g.live=true->∃D:Blk,L[j]?=some D/\D.live=true:=λj g a l=>by grind
 obtain⟨D,Y,X⟩:=A O R S l1;obtain⟨P,a2,T⟩:=A B g h2 l2;exact h.inj O B D P d1 C Y X a2 T M q Z;rw[ap3]at s;split at s;rename_i e;subst e;exact h.tkloc j n sz t d i k C (gp m a) x p y F q;exact h.tkloc j n sz t d B g C (gp m a) x p s f q;intro b I K;rw[G b];exact h.frame b I K
 grind
theorem Rel.add(h:Rel w0 S0 E L w)(k:Blk)(c:Loc)(O:∀o,E.mem c.blk o=none)(P:S0 c.blk\/w0.heap.size<=c.blk)(q:∀(j:Nat) (k':Blk) (d:Loc),L[j]?=some k'->k'.live=true->E.loc j=some d->d.blk≠c.blk)(l:k.live=true)(D:∀i n sz t d,L[i]?=some (.spare n sz)->E.tok i=some t->t.loc=some d->c.blk≠d.blk)(N:bZ {E with loc:=λi=>if i=L.length then some c else E.loc i} w L.length k):
  E.le {E with loc:=λi=>if i=L.length then some c else E.loc i}/\Rel w0 S0 {E with loc:=λi=>if i=L.length then some c else E.loc i} (L++[k]) w:=by
 have J:E.loc L.length=none:=h.fresh _ (apt _);have r:=Env.le_loc c J;have old:∀(i:Nat) (k':Blk),(L++[k])[i]?=some k'->i≠L.length->L[i]?=some k':=λi k' s q=>by grind
 refine⟨r,⟨h.mem,λi k' s=>?_,λi f=>?_,λi k' d s m p=>?_,λi j y A G c2 f m z u a b F=>?_,λi f=>h.tkfresh i (by simp at f;omega),λi n sz t d f=>h.tkown i n sz t d (iK l f),λi n sz t d j k' c' f B p z m g=>?_,
  λi n sz t d I K C t' M f B p H=>h.tkinj i n sz t d I K C t' M (iK l f) B p (iK l H),h.frame,h.size,h.os,h.tape,h.output,h.glob,h.gsz⟩⟩
 by_cases e:i=L.length;simp_all;rcases m:k'.live with _|_;exact bZ.still (E:=E) m rfl (λ_ _ _ _ _ _ _=>rfl) (h.blk i k' (old i k' s e));exact bZ.mono r m (h.blk i k' (old i k' s e));simp at f;show(if i=L.length then some c else E.loc i)=none;rw[if_neg asP];exact h.fresh i asP;have p:(if i=L.length then some c else E.loc i)=some d:=p;by_cases e:i=L.length;simp_all;rw[if_neg e]at p;exact h.own i k' d (old i k' s e) m p;have a:(if i=L.length then some c else E.loc i)=some G:=a;have b:(if j=L.length then some c else E.loc j)=some c2:=b;by_cases v:i=L.length<;>by_cases x:j=L.length;omega;rw[if_pos v]at a;rw[if_neg x]at b;cases a;exact absurd F.symm (q j A c2 (old j A z x) u b);rw[if_neg v]at a;rw[if_pos x]at b;cases b;exact absurd F (q i y G (old i y f v) m a);rw[if_neg v]at a;rw[if_neg x]at b;exact h.inj i j y A G c2 (old i y f v) m (old j A z x) u a b F;have g:(if j=L.length then some c else E.loc j)=some c':=g;by_cases e:j=L.length;rw[if_pos e]at g;cases g;exact D i n sz t d (iK l f) B p;rw[if_neg e]at g;exact h.tkloc i n sz t d j k' c' (iK l f) B p (old j k' z e) m g
theorem Rel.kill(h:Rel w0 S0 E L w)(y:L'.length=L.length)(g:∀(i:Nat) (k:Blk),L'[i]?=some k->k=.dead\/L[i]?=some k):Rel w0 S0 E L' w:=by
 have b:∀(i:Nat) (k:Blk),L'[i]?=some k->k.live=true->L[i]?=some k:=λi k m l=>by rcases g i k m with e|e;subst e;simp[Blk.live]at l;omega
 have a:∀(i n sz:Nat),L'[i]?=some (.spare n sz)->L[i]?=some (.spare n sz):=λi n sz m=>by grind
 refine⟨h.mem,λi k m=>?_,λi f=>h.fresh i asP,λi k c m l A=>h.own i k c (b i k m l) l A,λi j k k' c c' f v s z=>h.inj i j k k' c c' (b i k f v) v (b j k' s z) z,
  λi f=>h.tkfresh i asP,λi n sz t d f=>h.tkown i n sz t d (a i n sz f),λi n sz t d j k' c' f r q s l=>h.tkloc i n sz t d j k' c' (a i n sz f) r q (b j k' s l) l,
  λi n sz t d x u o t' B f r q p=>h.tkinj i n sz t d x u o t' B (a i n sz f) r q (a x u o p),h.frame,h.size,h.os,h.tape,h.output,h.glob,h.gsz⟩
 rcases g i k m with e|e;subst e;simp[bZ];exact h.blk i k e
mutual
def AV.refs(p:Nat->Bool):AV->Bool
 |.ptr i _=>p i
 |.iptr l _=>AV.refsL p l
 |.sl l _ _=>AV.refsL p l
 |.lsl i _ _ _ _=>p i
 |.gsl l _ i _=>p i&&AV.refsL p l
 |.lmap i=>p i
 |.yld i=>p i
 |.func _ caps=>AV.refsL p caps
 |.iface _ a=>AV.refs p a
 |.agg l=>AV.refsL p l
 |.tup l=>AV.refsL p l
 |_=>true
def AV.refsL(p:Nat->Bool):List AV->Bool
 |[]=>true
 |a::l=>AV.refs p a&&AV.refsL p l
end
theorem AV.refsL_iff{p:Nat->Bool}:∀{l:List AV},AV.refsL p l=true↔∀a∈l,AV.refs p a=true
 |[]=>by simp[AV.refsL]
 |a::l=>by simp[AV.refsL,AV.refsL_iff (l:=l)]
mutual
theorem VR.cut{E E':Env}{p:Nat->Bool}(k:∀b o v,E.mem b o=some v->E'.mem b o=some v)(h:∀i c,p i=true->E.loc i=some c->E'.loc i=some c)(j:∀i t,p i=true->E.tok i=some t->E'.tok i=some t):
  ∀(a:AV) (v:Value),a.refs p=true->VR E a v->VR E' a v
 |.undef,_,_,_=>by simp[VR]
 |.bool _,_,_,r=>by simpa[VR]using r
 |.anyb,_,_,r=>by simpa[VR]using r
 |.int _ _,_,_,r=>by simpa[VR]using r
 |.str _,_,_,r=>by simpa[VR]using r
 |.nilptr,_,_,r=>by simpa[VR]using r
 |.gptr _ _,_,_,r=>by simpa[VR]using r
 |.ptr i off,v,q,r=>by simp only[VR,AV.refs]at q r⊢;obtain⟨c,e,g⟩:=r;exact⟨c,h _ _ q e,g⟩
 |.iptr l off,v,q,r=>by simp only[VR,AV.refs]at q r⊢;obtain⟨b,o,e,g⟩:=r;exact⟨b,o,e,VRC.cut k h j l b o q g⟩
 |.nilsl,_,_,r=>by simpa[VR]using r
 |.sl l n cap,v,q,r=>by simp only[VR,AV.refs]at q r⊢;obtain⟨p,c,e,g,m,h4⟩:=r;exact⟨p,c,e,g,m,h4.imp id λ⟨b,o,u,s⟩=>⟨b,o,u,VRC.cut k h j l b o q s⟩⟩
 |.gsl l n i sz,v,q,r=>by simp only[VR,AV.refs,apw]at q r⊢;obtain⟨p,c,e,g,m,h4,t,u,s⟩:=r;exact⟨p,c,e,g,m,h4.imp id λ⟨b,o,y,z⟩=>⟨b,o,y,VRC.cut k h j l b o q.2 z⟩,t,j _ _ q.1 u,s⟩
 |.lsl i off len cap sz,v,q,r=>by simp only[VR,AV.refs]at q r⊢;obtain⟨c,w,d,e,g⟩:=r;exact⟨c,w,d,h _ _ q e,g⟩
 |.nilmap,_,_,r=>by simpa[VR]using r
 |.lmap i,v,q,r=>by simp only[VR,AV.refs]at q r⊢;obtain⟨c,e,g⟩:=r;exact⟨c,h _ _ q e,g⟩
 |.yld i,v,q,r=>by simp only[VR,AV.refs]at q r⊢;obtain⟨c,e,g⟩:=r;exact⟨c,h _ _ q e,g⟩
 |.func f caps,v,q,r=>by simp only[VR,AV.refs]at q r⊢;obtain⟨vs,e,g⟩:=r;exact⟨vs,e,VRL.cut k h j caps vs q g⟩
 |.nilfunc,_,_,r=>by simpa[VR]using r
 |.nilif,_,_,r=>by simpa[VR]using r
 |.iface t a,v,q,r=>by simp only[VR,AV.refs]at q r⊢;obtain⟨x,e,g⟩:=r;exact⟨x,e,VR.cut k h j a x q g⟩
 |.agg l,v,q,r=>by simp only[VR,AV.refs]at q r⊢;obtain⟨vs,e,g⟩:=r;exact⟨vs,e,VRL.cut k h j l vs q g⟩
 |.tup l,v,q,r=>by simp only[VR,AV.refs]at q r⊢;obtain⟨vs,e,g⟩:=r;exact⟨vs,e,VRL.cut k h j l vs q g⟩
theorem VRL.cut{E E':Env}{p:Nat->Bool}(f:∀b o v,E.mem b o=some v->E'.mem b o=some v)(e:∀i c,p i=true->E.loc i=some c->E'.loc i=some c)(d:∀i t,p i=true->E.tok i=some t->E'.tok i=some t):
  ∀(l:List AV) (vs:List Value),AV.refsL p l=true->VRL E l vs->VRL E' l vs
 |[],_,_,r=>by simpa[VRL]using r
 |a::l,vs,q,r=>by simp only[VRL,AV.refsL,apw]at q r⊢;obtain⟨x,xs,h,j,g⟩:=r;exact⟨x,xs,h,VR.cut f e d a x q.1 j,VRL.cut f e d l xs q.2 g⟩
theorem VRC.cut{E E':Env}{p:Nat->Bool}(d:∀b o v,E.mem b o=some v->E'.mem b o=some v)(e:∀i c,p i=true->E.loc i=some c->E'.loc i=some c)(f:∀i t,p i=true->E.tok i=some t->E'.tok i=some t):
  ∀(l:List AV) (b o:Nat),AV.refsL p l=true->VRC E l b o->VRC E' l b o
 |[],_,_,_,_=>by simp[VRC]
 |a::l,b,o,q,r=>by simp only[VRC,AV.refsL,apw]at q r⊢;obtain⟨⟨x,j,h⟩,g⟩:=r;exact⟨⟨x,d _ _ _ j,VR.cut d e f a x q.1 h⟩,VRC.cut d e f l b (o+1) q.2 g⟩
end
mutual
def AV.ren(f:Nat->Nat):AV->AV
 |.ptr i o=>.ptr (f i) o
 |.iptr l o=>.iptr (AV.renL f l) o
 |.sl l n c=>.sl (AV.renL f l) n c
 |.lsl i o n c s=>.lsl (f i) o n c s
 |.gsl l n i s=>.gsl (AV.renL f l) n (f i) s
 |.lmap i=>.lmap (f i)
 |.yld i=>.yld (f i)
 |.func g caps=>.func g (AV.renL f caps)
 |.iface t a=>.iface t (AV.ren f a)
 |.agg l=>.agg (AV.renL f l)
 |.tup l=>.tup (AV.renL f l)
 |a=>a
def AV.renL(f:Nat->Nat):List AV->List AV
 |[]=>[]
 |a::l=>AV.ren f a::AV.renL f l
end
theorem AV.renL_eq{f:Nat->Nat}:∀{l:List AV},AV.renL f l=l.map (AV.ren f)
 |[]=>rfl
 |a::l=>by simp[AV.renL,AV.renL_eq (l:=l)]
mutual
theorem VR.ren{E E':Env}{p:Nat->Bool}{f:Nat->Nat}(m:∀b o v,E.mem b o=some v->E'.mem b o=some v)(j:∀i c,p i=true->E.loc i=some c->E'.loc (f i)=some c)(k:∀i t,p i=true->E.tok i=some t->E'.tok (f i)=some t):
  ∀(a:AV) (v:Value),a.refs p=true->VR E a v->VR E' (a.ren f) v
 |.undef,_,_,_=>by simp[VR,AV.ren]
 |.bool _,_,_,r=>by simpa[VR,AV.ren]using r
 |.anyb,_,_,r=>by simpa[VR,AV.ren]using r
 |.int _ _,_,_,r=>by simpa[VR,AV.ren]using r
 |.str _,_,_,r=>by simpa[VR,AV.ren]using r
 |.nilptr,_,_,r=>by simpa[VR,AV.ren]using r
 |.gptr _ _,_,_,r=>by simpa[VR,AV.ren]using r
 |.ptr i off,v,q,r=>by simp only[VR,AV.ren,AV.refs]at q r⊢;obtain⟨c,e,h⟩:=r;exact⟨c,j _ _ q e,h⟩
 |.iptr l off,v,q,r=>by simp only[VR,AV.ren,AV.refs]at q r⊢;obtain⟨b,o,e,h⟩:=r;exact⟨b,o,e,VRC.ren m j k l b o q h⟩
 |.nilsl,_,_,r=>by simpa[VR,AV.ren]using r
 |.sl l n cap,v,q,r=>by simp only[VR,AV.ren,AV.refs]at q r⊢;obtain⟨p,c,e,h,s,h4⟩:=r;exact⟨p,c,e,h,s,h4.imp (λ⟨u,a2,a3⟩=>⟨u,a2,by subst a3;rfl⟩) λ⟨b,o,y,w⟩=>⟨b,o,y,VRC.ren m j k l b o q w⟩⟩
 |.gsl l n i sz,v,q,r=>by simp only[VR,AV.refs,AV.ren,apw]at q r⊢;obtain⟨p,c,e,h,s,h4,t,y,w⟩:=r;exact⟨p,c,e,h,by rw[AV.renL_eq];simpa using s,h4.imp (λ⟨u,a2,a3⟩=>⟨u,a2,by subst a3;rfl⟩) λ⟨b,o,A,B⟩=>⟨b,o,A,VRC.ren m j k l b o q.2 B⟩,t,k _ _ q.1 y,w⟩
 |.lsl i off len cap sz,v,q,r=>by simp only[VR,AV.ren,AV.refs]at q r⊢;obtain⟨c,z,d,e,h⟩:=r;exact⟨c,z,d,j _ _ q e,h⟩
 |.nilmap,_,_,r=>by simpa[VR,AV.ren]using r
 |.lmap i,v,q,r=>by simp only[VR,AV.ren,AV.refs]at q r⊢;obtain⟨c,e,h⟩:=r;exact⟨c,j _ _ q e,h⟩
 |.yld i,v,q,r=>by simp only[VR,AV.ren,AV.refs]at q r⊢;obtain⟨c,e,h⟩:=r;exact⟨c,j _ _ q e,h⟩
 |.func g caps,v,q,r=>by simp only[VR,AV.ren,AV.refs]at q r⊢;obtain⟨vs,e,h⟩:=r;exact⟨vs,e,VRL.ren m j k caps vs q h⟩
 |.nilfunc,_,_,r=>by simpa[VR,AV.ren]using r
 |.nilif,_,_,r=>by simpa[VR,AV.ren]using r
 |.iface t a,v,q,r=>by simp only[VR,AV.ren,AV.refs]at q r⊢;obtain⟨x,e,h⟩:=r;exact⟨x,e,VR.ren m j k a x q h⟩
 |.agg l,v,q,r=>by simp only[VR,AV.ren,AV.refs]at q r⊢;obtain⟨vs,e,h⟩:=r;exact⟨vs,e,VRL.ren m j k l vs q h⟩
 |.tup l,v,q,r=>by simp only[VR,AV.ren,AV.refs]at q r⊢;obtain⟨vs,e,h⟩:=r;exact⟨vs,e,VRL.ren m j k l vs q h⟩
theorem VRL.ren{E E':Env}{p:Nat->Bool}{f:Nat->Nat}(g:∀b o v,E.mem b o=some v->E'.mem b o=some v)(e:∀i c,p i=true->E.loc i=some c->E'.loc (f i)=some c)(d:∀i t,p i=true->E.tok i=some t->E'.tok (f i)=some t):
  ∀(l:List AV) (vs:List Value),AV.refsL p l=true->VRL E l vs->VRL E' (AV.renL f l) vs
 |[],_,_,r=>by simpa[VRL,AV.renL]using r
 |a::l,vs,q,r=>by simp only[VRL,AV.refsL,AV.renL,apw]at q r⊢;obtain⟨x,xs,j,k,h⟩:=r;exact⟨x,xs,j,VR.ren g e d a x q.1 k,VRL.ren g e d l xs q.2 h⟩
theorem VRC.ren{E E':Env}{p:Nat->Bool}{f:Nat->Nat}(d:∀b o v,E.mem b o=some v->E'.mem b o=some v)(e:∀i c,p i=true->E.loc i=some c->E'.loc (f i)=some c)(g:∀i t,p i=true->E.tok i=some t->E'.tok (f i)=some t):
  ∀(l:List AV) (b o:Nat),AV.refsL p l=true->VRC E l b o->VRC E' (AV.renL f l) b o
 |[],_,_,_,_=>by simp[VRC,AV.renL]
 |a::l,b,o,q,r=>by simp only[VRC,AV.refsL,AV.renL,apw]at q r⊢;obtain⟨⟨x,k,j⟩,h⟩:=r;exact⟨⟨x,d _ _ _ k,VR.ren d e g a x q.1 j⟩,VRC.ren d e g l b (o+1) q.2 h⟩
end
theorem Rel.snap(h:Rel w0 S0 E L w)(C:L[i]?=some (.cells l))(B:E.loc i=some c):
  ∃E',E.le E'/\Rel w0 S0 E' (L.set i .dead) w/\VRC E' l c.blk c.off/\E'.loc=E.loc:=by
 obtain⟨c',cs,ty,fr,H,P,U,h4,S,T⟩:=h.blk i _ C;rw[B]at H;cases H;have K:=h.own i _ c C rfl B;have s:E.le {E with mem:=λb o=>if b=c.blk/\c.off<=o/\o<c.off+l.length then w.cell? ⟨b,o,none⟩else E.mem b o}:=by
  refine⟨λb o v z=>?_,λ_ _ x=>x,λ_ t h=>⟨t,h,.inl rfl⟩⟩
  grind
 refine⟨{E with mem:=λb o=>if b=c.blk/\c.off<=o/\o<c.off+l.length then w.cell? ⟨b,o,none⟩else E.mem b o},s,?_,?_,rfl⟩;have r:∀(j:Nat) (k:Blk),(L.set i .dead)[j]?=some k->k.live=true->j≠i/\L[j]?=some k:=λj k m p=>by
  rw[ap3]at m;split at m;split at m;cases m;simp[Blk.live]at p;simp_all
  grind
 refine⟨λb o v z=>?_,λj k m=>?_,λj g=>h.fresh j (by simpa using g),λj k d m p q=>?_,λj u k k' d G g J f A=>h.inj j u k k' d G (r j k g J).2 J (r u k' f A).2 A,
  λj g=>h.tkfresh j (by simpa using g),λj n sz t d g y q=>⟨λo O=>?_,(h.tkown j n sz t d (gp asQ g) y q).2⟩,λj n sz t d u k' c' g y q f p=>h.tkloc j n sz t d u k' c' (gp asQ g) y q (r u k' f p).2 p,
  λj n sz t d u M D t' G g y q f=>h.tkinj j n sz t d u M D t' G (gp asQ g) y q (gp asQ f),h.frame,h.size,h.os,h.tape,h.output,h.glob.mono s.mem,h.gsz⟩
 have z:(if b=c.blk/\c.off<=o/\o<c.off+l.length then w.cell? ⟨b,o,none⟩else E.mem b o)=some v:=z;split at z;exact z;exact h.mem b o v z;rcases p:k.live with _|_;rw[ap3]at m;split at m;split at m;cases m;simp[bZ];cases m;exact bZ.still (E:=E) p rfl (λ_ _ _ _ _ _ _=>rfl) (h.blk j k m);exact bZ.mono s p (h.blk j k (r j k m p).2);obtain⟨F,g⟩:=r j k m p;have q:E.loc j=some d:=q;refine⟨λo=>?_,(h.own j k d g p q).2⟩;show(if d.blk=c.blk/\c.off<=o/\o<c.off+l.length then w.cell? ⟨d.blk,o,none⟩else E.mem d.blk o)=none;rw[if_neg λe=>F (h.inj j i k _ d c g p C rfl q B e.1)];exact(h.own j k d g p q).1 o;have f:=gp asQ g;show(if d.blk=c.blk/\c.off<=o/\o<c.off+l.length then w.cell? ⟨d.blk,o,none⟩else E.mem d.blk o)=none;rw[if_neg λe=>h.tkloc j n sz t d i _ c f y q C rfl B e.1.symm];exact(h.tkown j n sz t d f y q).1 o O;refine VRC.of_get λj a I=>?_
 obtain⟨v,N,Q⟩:=S j a I;have R:j<l.length:=(aps.1 I).1;refine⟨v,?_,VR.mono s _ _ Q⟩;show(if c.blk=c.blk/\c.off<=c.off+j/\c.off+j<c.off+l.length then w.cell? ⟨c.blk,c.off+j,none⟩else E.mem c.blk (c.off+j))=some v;rw[if_pos ⟨rfl,asP,asP⟩];simp[World.cell?,P,N]
theorem Rel.imm(h:Rel w0 S0 E L w)(cs:List Value)(ty:TypeId)(l:List AV)(g:VRL E l cs)(p:List Value)(fr:Nat×Nat):
  ∃E',E.le E'/\Rel w0 S0 E' L {w with heap:=w.heap.push (.cells ⟨cs++p⟩ ty fr)}/\VRC E' l w.heap.size 0/\E'.loc=E.loc:=by
 have i:E.le {E with mem:=λb o=>if b=w.heap.size then cs[o]? else E.mem b o}:=by refine⟨λb o v m=>?_,λ_ _ x=>x,λ_ t h=>⟨t,h,.inl rfl⟩⟩;show(if b=w.heap.size then cs[o]? else E.mem b o)=some v;rw[if_neg (by have:=h.mem_lt m;omega)];exact m
 refine⟨{E with mem:=λb o=>if b=w.heap.size then cs[o]? else E.mem b o},i,?_,?_,rfl⟩;refine⟨λb o v m=>?_,λj k c=>?_,h.fresh,λj k d c g f=>?_,h.inj,h.tkfresh,λj n sz t d s q f=>⟨λo u=>?_,(h.tkown j n sz t d s q f).2⟩,h.tkloc,h.tkinj,λk c A=>?_,?_,h.os,h.tape,h.output,h.glob.mono i.mem,h.gsz.push _⟩;replace m:(if b=w.heap.size then cs[o]? else E.mem b o)=some v:=m;by_cases e:b=w.heap.size;rw[if_pos e]at m;subst e;have r:o<cs.length:=(aps.1 m).1;simp[World.cell?,aqO,r];simp_all;rw[if_neg e]at m;exact SV (h.mem b o v m);rcases g:k.live with _|_;exact bZ.still (E:=E) g rfl (λt d n sz e q f=>aqP (h.tok_lt (e▸c) q f) |>.trans (aqp _).symm) (h.blk j k c);refine bZ.worldL g (λd f=>?_) (bZ.mono i g (h.blk j k c));exact aqP (h.loc_lt c g f) |>.trans (aqp _).symm;refine⟨λo=>?_,(h.own j k d c g f).2⟩;show(if d.blk=w.heap.size then cs[o]? else E.mem d.blk o)=none;rw[if_neg (by have:=h.loc_lt c g f;omega)];exact(h.own j k d c g f).1 o;show(if d.blk=w.heap.size then cs[o]? else E.mem d.blk o)=none;rw[if_neg (by have:=h.tok_lt s q f;omega)];exact(h.tkown j n sz t d s q f).1 o u;rw[<- h.frame k c A];exact aqP (aqD c h.size) |>.trans (aqp _).symm;simp;have:=h.size;omega;refine VRC.of_get λj a y=>?_
 obtain⟨v,B,z⟩:=g.get y;refine⟨v,?_,VR.mono i _ _ z⟩;simp[*]
def Wr(E:Env)(L:List Blk)(b:Nat):Prop:=(∃i k c,L[i]?=some k/\k.live=true/\E.loc i=some c/\c.blk=b)\/∃i n sz t c,L[i]?=some (.spare n sz)/\E.tok i=some t/\t.loc=some c/\c.blk=b
theorem Rel.enter(h:Rel w0 S0 E L w)(B:Nat:=0):Rel w ⟨Wr E L,B⟩ E L w :=
 ⟨h.mem,h.blk,h.fresh,λi k c d b a=>⟨(h.own i k c d b a).1,.inl (.inl ⟨i,k,c,d,b,a,rfl⟩)⟩,h.inj,h.tkfresh,λi n sz t c e f a=>⟨(h.tkown i n sz t c e f a).1,.inl (.inr ⟨i,n,sz,t,c,e,f,a,rfl⟩)⟩,h.tkloc,h.tkinj,λ_ _ _=>rfl,apt _,rfl,rfl,rfl,h.glob,h.gsz⟩
theorem Rel.back{B:Nat}(h:Rel w0 S0 E L w)(k:Rel w ⟨Wr E L,B⟩ E' L' w'):Rel w0 S0 E' L' w':=by
 have key:∀b,Wr E L b->S0 b\/w0.heap.size<=b:=λb e=>by rcases e with⟨i,k,c,a,g,f,h4⟩|⟨i,n,sz,t,c,a,g,f,h4⟩;exact h4▸(h.own i k c a g f).2;exact h4▸(h.tkown i n sz t c a g f).2
 refine⟨k.mem,k.blk,k.fresh,λi x c j m d=>⟨(k.own i x c j m d).1,?_⟩,k.inj,k.tkfresh,λi n sz t c l o d=>⟨(k.tkown i n sz t c l o d).1,?_⟩,k.tkloc,k.tkinj,λb e p=>?_,apR h.size k.size,k.os.trans h.os,k.tape.trans h.tape,k.output.trans h.output,k.glob,k.gsz⟩;rcases(k.own i x c j m d).2 with a|a;simp_all;exact .inr (apR h.size a);rcases(k.tkown i n sz t c l o d).2 with a|a;simp_all;exact .inr (apR h.size a);rw[k.frame b (aqD e h.size) λq=>(key b q).elim p (λa=>asP),h.frame b e p]
def Env.res(E:Env)(n:Nat)(g:Nat->Nat):Env:={mem:=E.mem,loc:=λi=>if i<n then E.loc (g i)else none,tok:=λi=>if i<n then E.tok (g i)else none}
theorem Env.res_loc{g:Nat->Nat}(h:i<n):(E.res n g).loc i=E.loc (g i):=by simp[Env.res,h]
theorem Env.res_tok{g:Nat->Nat}(h:i<n):(E.res n g).tok i=E.tok (g i):=by simp[Env.res,h]
theorem Rel.renum(h:Rel w0 S0 E L w)(g:Nat->Nat)(b:∀i j,i<L'.length->j<L'.length->g i=g j->i=j)(A:∀(i n sz:Nat),L'[i]?=some (.spare n sz)->L[g i]?=some (.spare n sz))(B:∀(i:Nat) (k:Blk),L'[i]?=some k->k.live=true->∃m:Blk,L[g i]?=some m/\m.live=true/\bZ (E.res L'.length g) w i k):
  Rel w0 S0 (E.res L'.length g) L' w:=by
 have lt:∀(i:Nat) (k:Blk),L'[i]?=some k->i<L'.length:=λi k l=>(aps.1 l).1
 refine⟨h.mem,λi k l=>?_,λi a=>?_,λi k c l u G=>?_,λi j k k' c c' a H p I s x K=>?_,λi a=>?_,λi n sz t d a f v=>?_,λi n sz t d j k' c' a f v p u y=>?_,λi n sz t d C M D t' N a f v o r F e=>?_,h.frame,h.size,h.os,h.tape,h.output,h.glob,h.gsz⟩;rcases u:k.live with _|_;cases k<;>simp only[Blk.live,aqN]at u;simp[bZ];exact bZ.still (i:=g i) rfl (Env.res_tok (lt i _ l)) (λ_ _ _ _ _ _ _=>rfl) (h.blk (g i) _ (A i _ _ l))
 grind
 simp only[Env.res]
 grind
 rw[Env.res_loc (lt i k l)]at G;obtain⟨m,q,z,_⟩:=B i k l u;exact h.own (g i) m c q z G;rw[Env.res_loc (lt i k a)]at s;rw[Env.res_loc (lt j k' p)]at x;obtain⟨m,q,z,_⟩:=B i k a H;obtain⟨O,J,h4,_⟩:=B j k' p I;exact b i j (lt i k a) (lt j k' p) (h.inj _ _ _ _ _ _ q z J h4 s x K);simp only[Env.res]
 grind
 rw[Env.res_tok (lt i _ a)]at f;exact h.tkown (g i) n sz t d (A _ _ _ a) f v;rw[Env.res_tok (lt i _ a)]at f;rw[Env.res_loc (lt j k' p)]at y;obtain⟨m,q,z,_⟩:=B j k' p u;exact h.tkloc (g i) n sz t d (g j) m c' (A _ _ _ a) f v q z y;rw[Env.res_tok (lt i _ a)]at f;rw[Env.res_tok (lt C _ o)]at r;exact b i C (lt i _ a) (lt C _ o) (h.tkinj (g i) n sz t d (g C) M D t' N (A _ _ _ a) f v (A _ _ _ o) r F e)
def Blk.refs(p:Nat->Bool):Blk->Bool
 |.cells l=>AV.refsL p l
 |.map es _=>es.all λe=>e.1.refs p&&e.2.1.refs p
 |.miter (some j) _ _ _=>p j
 |.bytes l=>AV.refsL p l
 |.lrec T _ _ _ _ _ _=>T.all λe=>((ay T e.1).map (AV.refs p)).getD true
 |_=>true
theorem aI.cut{E E':Env}{p:Nat->Bool}(f:∀b o v,E.mem b o=some v->E'.mem b o=some v)(d:∀i c,p i=true->E.loc i=some c->E'.loc i=some c)(a:∀i t,p i=true->E.tok i=some t->E'.tok i=some t):
  ∀{l:List (AV×AV×Nat)}{es:List MapEntry},(l.all λe=>e.1.refs p&&e.2.1.refs p)=true->aI E l es->aI E' l es
 |[],_,_,r=>by simpa[aI]using r
 |(k,x,b)::l,es,q,r=>by simp only[aqE,apw,aI]at q r⊢;obtain⟨e,t,h,j,g,h4,m⟩:=r;exact⟨e,t,h,VR.cut f d a _ _ q.1.1 j,VR.cut f d a _ _ q.1.2 g,h4,aI.cut f d a q.2 m⟩
theorem bZ.cut{p:Nat->Bool}(B:∀b o v,E.mem b o=some v->E'.mem b o=some v)(z:∀i c,p i=true->E.loc i=some c->E'.loc i=some c)(C:∀i t,p i=true->E.tok i=some t->E'.tok i=some t)(u:∀c,E.loc i=some c->E'.loc i=some c):∀{k:Blk},k.live=true->k.refs p=true->bZ E w i k->bZ E' w i k
 |.dead,q,_,_=>by simp[Blk.live]at q
 |.spare _ _,q,_,_=>by simp[Blk.live]at q
 |.cells l,_,q,r=>by simp only[bZ,Blk.refs]at q r⊢;obtain⟨c,cs,ty,fr,e,g,f,h4,A,F⟩:=r;exact⟨c,cs,ty,fr,u _ e,g,f,h4,λj a h=>let ⟨v,x,y⟩:=A j a h;⟨v,x,VR.cut B z C _ _ (AV.refsL_iff.1 q a (aqj h)) y⟩,F⟩
 |.map es ck,_,q,r=>by simp only[bZ,Blk.refs]at q r⊢;obtain⟨c,rs,e,g,f⟩:=r;exact⟨c,rs,u _ e,g,aI.cut B z C q f⟩
 | .miter m since seen last,_,q,r=>by
   simp only[bZ]at r⊢;obtain⟨c,s,e,g,f,h4⟩:=r;refine⟨c,s,u _ e,g,f,?_⟩;cases m with
   |none=>exact h4
   |some j=>obtain⟨d,g1,H⟩:=h4;exact⟨d,z j d q g1,H⟩
 |.lrec T n fn ps ca cb busy,_,q,r=>by simp only[bZ,Blk.refs,apF]at q r⊢;obtain⟨c,D,tm,e,g,f,h4,A⟩:=r;exact⟨c,D,tm,u _ e,g,f,h4,λt v G=>VR.cut B z C _ _ (by simpa[G]using q (t,v) (N4 G)) (A t v G)⟩
 | .siter s pos,_,_,r=>by
   simp only[bZ]at r⊢
   grind
 |.bytes l,_,q,r=>by simp only[bZ,Blk.refs]at q r⊢;obtain⟨c,cs,ty,fr,e,g,f,h4,A,F⟩:=r;exact⟨c,cs,ty,fr,u _ e,g,f,h4,λj a h=>let ⟨v,x,y⟩:=A j a h;⟨v,x,VR.cut B z C _ _ (AV.refsL_iff.1 q a (aqj h)) y⟩,F⟩
theorem Rel.cut(h:Rel w0 S0 E (L++L') w)(q:∀k∈L,k.refs (λi=>decide (i<L.length))=true):
  Rel w0 S0 (E.res L.length id) L w:=by
 have d:∀(i:Nat) (k:Blk),L[i]?=some k->(L++L')[i]?=some k:=λi k a=>by grind
 refine h.renum (L':=L) id (λ_ _ _ _ e=>e) (λi n sz m=>d i _ m) λi k a l=>?_
 have f:i<L.length:=(aps.1 a).1;refine⟨k,d i k a,l,?_⟩;refine bZ.cut (E:=E) (E':=E.res L.length id) (p:=λi=>decide (i<L.length)) (λ_ _ _ x=>x) (λj c g b=>?_) (λj t g o=>?_) (λc b=>?_) l (q k (aqj a)) (h.blk i k (d i k a));rw[Env.res_loc (by simpa using g)];exact b;rw[Env.res_tok (by simpa using g)];exact o;rw[Env.res_loc f];exact b
theorem Rel.imm'(h:Rel w0 S0 E L w)(cs:List Value)(ty:TypeId)(l:List AV)(g:VRL E l cs)(p:List Value)(fr:Nat×Nat):
  ∃E',E.le E'/\Rel w0 S0 E' L {w with heap:=w.heap.push (.cells ⟨cs++p⟩ ty fr)}/\VRC E' l w.heap.size 0/\E'.loc=E.loc/\E'.tok=E.tok/\∀o,cs.length<=o->E'.mem w.heap.size o=none:=by
 have m:E.le {E with mem:=λb o=>if b=w.heap.size then cs[o]? else E.mem b o}:=by refine⟨λb o v i=>?_,λ_ _ x=>x,λ_ t h=>⟨t,h,.inl rfl⟩⟩;show(if b=w.heap.size then cs[o]? else E.mem b o)=some v;rw[if_neg (by have:=h.mem_lt i;omega)];exact i
 refine⟨{E with mem:=λb o=>if b=w.heap.size then cs[o]? else E.mem b o},m,?_,?_,rfl,rfl,λo s=>?_⟩;refine⟨λb o v i=>?_,λj k f=>?_,h.fresh,λj k d f g c=>?_,h.inj,h.tkfresh,λj n sz t d u q c=>⟨λo s=>?_,(h.tkown j n sz t d u q c).2⟩,h.tkloc,h.tkinj,λk f B=>?_,?_,h.os,h.tape,h.output,h.glob.mono m.mem,h.gsz.push _⟩;replace i:(if b=w.heap.size then cs[o]? else E.mem b o)=some v:=i;by_cases e:b=w.heap.size;rw[if_pos e]at i;subst e;have r:o<cs.length:=(aps.1 i).1;simp[World.cell?,aqO,r];simpa[apD r]using i;rw[if_neg e]at i;exact SV (h.mem b o v i);rcases g:k.live with _|_;exact bZ.still (E:=E) g rfl (λt d n sz e q c=>aqP (h.tok_lt (e▸f) q c) |>.trans (aqp _).symm) (h.blk j k f);refine bZ.worldL g (λd c=>?_) (bZ.mono m g (h.blk j k f));exact aqP (h.loc_lt f g c) |>.trans (aqp _).symm;have c:E.loc j=some d:=c;refine⟨λo=>?_,(h.own j k d f g c).2⟩;show(if d.blk=w.heap.size then cs[o]? else E.mem d.blk o)=none;rw[if_neg (by have:=h.loc_lt f g c;omega)];exact(h.own j k d f g c).1 o;show(if d.blk=w.heap.size then cs[o]? else E.mem d.blk o)=none;rw[if_neg (by have:=h.tok_lt u q c;omega)];exact(h.tkown j n sz t d u q c).1 o s;rw[<- h.frame k f B];exact aqP (aqD f h.size) |>.trans (aqp _).symm;simp;have:=h.size;omega;refine VRC.of_get λj a z=>?_
 obtain⟨v,y,A⟩:=g.get z;refine⟨v,?_,VR.mono m _ _ A⟩;show(if w.heap.size=w.heap.size then cs[0+j]? else E.mem w.heap.size (0+j))=some v;simpa using y;show(if w.heap.size=w.heap.size then cs[o]? else E.mem w.heap.size o)=none;rw[if_pos rfl];simpa using s
def aih(w0:World)(S0:SB)(E:Env)(L:List Blk)(w:World)(i n sz:Nat)(lc:Option Loc):Prop:=∀k,lc=some k ->
 (∃cs ty fr,w.heap[k.blk]?=some (.cells cs ty fr)/\cs.size=k.size/\(∀o,n*sz<=o->o<k.size->¬(fr.1<=o/\o<fr.2)))/\(∀o,n*sz<=o->E.mem k.blk o=none)/\(S0 k.blk\/w0.heap.size<=k.blk) /\
 (∀j k' c,L[j]?=some k'->k'.live=true->E.loc j=some c->c.blk≠k.blk)/\(∀j n' sz' t' k',j≠i->L[j]?=some (.spare n' sz')->E.tok j=some t'->t'.loc=some k'->k'.blk≠k.blk)
theorem Xn      :aih w0 S0 E L w i n sz none:=λ_ h=>by cases h
theorem Rel.settok(h:Rel w0 S0 E L w){lc:Option Loc}(O:∃m s,L[i]?=some (.spare m s))(G:∀t,E.tok i=some t->t.pos<n)(C:aih w0 S0 E L w i n sz lc):
  E.le {E with tok:=λj=>if j=i then some ⟨n,sz,lc⟩else E.tok j}/\Rel w0 S0 {E with tok:=λj=>if j=i then some ⟨n,sz,lc⟩else E.tok j} (L.set i (.spare n sz)) w:=by
 obtain⟨S,T,O⟩:=O;have H:i<L.length:=(aps.1 O).1;have p:∀(j:Nat) (k:Blk),(L.set i (.spare n sz))[j]?=some k->k.live=true->j≠i/\L[j]?=some k:=λj k a o=>by
  rw[ap3]at a;by_cases e:i=j;subst e;rw[if_pos rfl,if_pos H]at a;cases a;simp[Blk.live]at o
  grind
 have f:∀(j g b:Nat) (t:Tok),(L.set i (.spare n sz))[j]?=some (.spare g b)->(if j=i then some (⟨n,sz,lc⟩:Tok)else E.tok j)=some t->(j=i/\g=n/\b=sz/\t=⟨n,sz,lc⟩)\/(j≠i/\L[j]?=some (.spare g b)/\E.tok j=some t):=λj g b t a v=>by grind
 have D:E.le {E with tok:=λj=>if j=i then some ⟨n,sz,lc⟩else E.tok j}:=⟨λ_ _ _ x=>x,λ_ _ x=>x,λj t v=>by show ∃t',(if j=i then some (⟨n,sz,lc⟩:Tok)else E.tok j)=some t'/\_;by_cases e:j=i;subst e;exact⟨_,if_pos rfl,.inr (G t v)⟩;exact⟨t,by rw[if_neg e];exact v,.inl rfl⟩⟩
 refine⟨D,h.mem,λj k a=>?_,λj q=>h.fresh j (by simpa using q),λj k c a o Q=>h.own j k c (p j k a o).2 o Q,λj u k k' c c' a o M l=>h.inj j u k k' c c' (p j k a o).2 o (p u k' M l).2 l,
  λj q=>?_,λj g b t d q v r=>?_,λj g b t d u k' c' q v r y l I=>?_,λj g b t d u P K t' N q v r y J z e=>?_,h.frame,h.size,h.os,h.tape,h.output,h.glob,h.gsz⟩
 rcases o:k.live with _|_;rw[ap3]at a;by_cases e:i=j;subst e;rw[if_pos rfl,if_pos H]at a;cases a;refine⟨⟨n,sz,lc⟩,asQ,rfl,rfl,λk a=>(C k a).1⟩;rw[if_neg e]at a;refine bZ.still (E:=E) (i:=j) o ?_ (λ_ _ _ _ _ _ _=>rfl) (h.blk j k a)
 grind
 exact bZ.mono D o (h.blk j k (p j k a o).2);show(if j=i then some _ else E.tok j)=none
 rw [if_neg (by have : L.length <= j := by simpa using q
                omega)]
 exact h.tkfresh j (by simpa using q);rcases f j g b t q v with⟨rfl,rfl,rfl,rfl⟩|⟨_,A,B⟩;exact⟨(C d r).2.1,(C d r).2.2.1⟩;exact h.tkown j g b t d A B r;obtain⟨_,F⟩:=p u k' y l;rcases f j g b t q v with⟨rfl,rfl,rfl,rfl⟩|⟨_,A,B⟩;exact(C d r).2.2.2.1 u k' c' F l I;exact h.tkloc j g b t d u k' c' A B r F l I;rcases f j g b t q v with⟨rfl,rfl,rfl,rfl⟩|⟨R,A,B⟩<;>rcases f u P K t' y J with⟨rfl,rfl,rfl,rfl⟩|⟨n3,F,h4⟩;rfl;exact absurd e.symm ((C d r).2.2.2.2 u P K t' N n3 F h4 z);exact absurd e ((C N z).2.2.2.2 j g b t d R A B r);exact h.tkinj j g b t d u P K t' N A B r F h4 z e
theorem Rel.addtok(h:Rel w0 S0 E L w){lc:Option Loc}(A:aih w0 S0 E L w L.length n sz lc):
  E.le {E with tok:=λj=>if j=L.length then some ⟨n,sz,lc⟩else E.tok j}/\Rel w0 S0 {E with tok:=λj=>if j=L.length then some ⟨n,sz,lc⟩else E.tok j} (L++[.spare n sz]) w:=by
 have N:E.tok L.length=none:=h.tkfresh _ (apt _);have B:E.le {E with tok:=λj=>if j=L.length then some ⟨n,sz,lc⟩else E.tok j}:=⟨λ_ _ _ x=>x,λ_ _ x=>x,λj t r=>by show ∃t',(if j=L.length then some (⟨n,sz,lc⟩:Tok)else E.tok j)=some t'/\_;rw[if_neg (λe=>by rw[e,N]at r;cases r)];exact⟨t,r,.inl rfl⟩⟩
 have lt:∀(i:Nat) (k:Blk),L[i]?=some k->i<L.length:=λi k l=>(aps.1 l).1
 have D:∀(j:Nat) (k:Blk),(L++[.spare n sz])[j]?=some k->(j=L.length/\k=.spare n sz)\/(j<L.length/\L[j]?=some k):=λj k l=>by grind
 have a:∀(j:Nat) (k:Blk),(L++[.spare n sz])[j]?=some k->k.live=true->L[j]?=some k:=λj k l o=>by rcases D j k l with⟨_,e⟩|⟨_,e⟩;subst e;simp[Blk.live]at o;omega
 have f:∀(j g b:Nat) (t:Tok),(L++[.spare n sz])[j]?=some (.spare g b)->(if j=L.length then some (⟨n,sz,lc⟩:Tok)else E.tok j)=some t->(j=L.length/\g=n/\b=sz/\t=⟨n,sz,lc⟩)\/(j≠L.length/\L[j]?=some (.spare g b)/\E.tok j=some t):=λj g b t l r=>by grind
 refine⟨B,h.mem,λj k l=>?_,λj s=>h.fresh j (by simp at s;omega),λj k c l o O=>h.own j k c (a j k l o) o O,λj q k k' c c' l o J m=>h.inj j q k k' c c' (a j k l o) o (a q k' J m) m,
  λj s=>?_,λj g b t d s r p=>?_,λj g b t d q k' c' s r p u m F=>?_,λj g b t d q M I t' K s r p u H v e=>?_,h.frame,h.size,h.os,h.tape,h.output,h.glob,h.gsz⟩
 rcases D j k l with⟨e,G⟩|⟨e,G⟩;subst e;subst G;exact⟨⟨n,sz,lc⟩,asQ,rfl,rfl,λk l=>(A k l).1⟩;rcases o:k.live with _|_;refine bZ.still (E:=E) (i:=j) o ?_ (λ_ _ _ _ _ _ _=>rfl) (h.blk j k G)
 grind
 exact bZ.mono B o (h.blk j k G);simp at s;show(if j=L.length then some _ else E.tok j)=none;rw[if_neg asP];exact h.tkfresh j asP;rcases f j g b t s r with⟨rfl,rfl,rfl,rfl⟩|⟨_,y,z⟩;exact⟨(A d p).2.1,(A d p).2.2.1⟩;exact h.tkown j g b t d y z p;have C:=a q k' u m;rcases f j g b t s r with⟨rfl,rfl,rfl,rfl⟩|⟨_,y,z⟩;exact(A d p).2.2.2.1 q k' c' C m F;exact h.tkloc j g b t d q k' c' y z p C m F;rcases f j g b t s r with⟨rfl,rfl,rfl,rfl⟩|⟨P,y,z⟩<;>rcases f q M I t' u H with⟨rfl,rfl,rfl,rfl⟩|⟨n3,C,h4⟩;rfl;exact absurd e.symm ((A d p).2.2.2.2 q M I t' K n3 C h4 v);exact absurd e ((A K v).2.2.2.2 j g b t d P y z p);exact h.tkinj j g b t d q M I t' K y z p C h4 v e
theorem Rel.tokwrite(h:Rel w0 S0 E L w){m:Nat}{t:Tok}{k:Loc}(B:L[i]?=some (.spare m sz))(r:E.tok i=some t)(q:t.loc=some k)(a1:m<n){cs l:Array Value}{ty:TypeId}{fr:Nat×Nat}(hc:w.heap[k.blk]?=some (.cells cs ty fr))(hs:w'.heap.size=w.heap.size)(Y:∀b,b≠k.blk->w'.heap[b]?=w.heap[b]?)(e1:w'.os=w.os)(e2:w'.tape=w.tape)(e3:w'.output=w.output)(z:w'.heap[k.blk]?=some (.cells l ty fr))(M:l.size=cs.size)(ap:∀o,o<m*sz\/n*sz<=o->l[o]?=cs[o]?):
  ∃E',E.le E'/\Rel w0 S0 E' (L.set i (.spare n sz)) w'/\E'.tok i=some ⟨n,sz,some k⟩/\(∀o,m*sz<=o->o<n*sz->E'.mem k.blk o=l[o]?):=by
 have an:m*sz<=n*sz:=aqw _ asP;have T:i<L.length:=(aps.1 B).1;obtain⟨t',q1,q2,q3,q4⟩:=h.blk i _ B;rw[r]at q1;cases q1;obtain⟨av,a2,ar,q5,q6,q7⟩:=q4 k q;rw[hc]at q5;cases q5;have y:=h.tkown i m sz t k B r q;have J:Rel w0 S0 E L w':=by
  refine⟨λb o v C=>?_,λj p g=>?_,h.fresh,h.own,h.inj,h.tkfresh,h.tkown,h.tkloc,h.tkinj,λb O P=>?_,by rw[hs];exact h.size,e1.trans h.os,e2.trans h.tape,e3.trans h.output,h.glob,h.gsz.mod (λb ad Z ai O=>by by_cases e:b=k.blk;subst e;rw[hc]at O;cases O;exact⟨l,ty,fr,z,M⟩;exact⟨ad,Z,ai,by rw[Y b e];exact O,rfl⟩)⟩
  have:=h.mem b o v C;by_cases e:b=k.blk;subst e;have a0:o<m*sz:=by grind
  simp only[World.cell?,hc,z]at this⊢;simp_all;simp only[World.cell?]at this⊢;simp_all;rcases s:p.live with _|_;by_cases e:j=i;subst e;rw[B]at g;cases g;exact⟨t,r,q2,q3,λk' D=>by rw[q]at D;cases D;exact⟨l,ty,fr,z,by rw[M];exact q6,q7⟩⟩;exact bZ.still (E:=E) s rfl (λt2 d K N e2 f F=>Y d.blk λe'=>e (h.tkinj j K N t2 d i m sz t k (e2▸g) f F B r q e')) (h.blk j p g);exact bZ.worldL s (λd F=>Y d.blk (h.tkloc i m sz t k j p d B r q g s F)) (h.blk j p g);rw[Y b];exact h.frame b O P;intro e;subst e;rcases y.2 with G|G;exact P G;omega
 have V:E.le {E with mem:=λb o=>if b=k.blk/\m*sz<=o/\o<n*sz then w'.cell? ⟨b,o,none⟩else E.mem b o}:=by refine⟨λb o v C=>?_,λ_ _ x=>x,λ_ t h=>⟨t,h,.inl rfl⟩⟩;show(if b=k.blk/\m*sz<=o/\o<n*sz then w'.cell? ⟨b,o,none⟩else E.mem b o)=some v;split;exact J.mem b o v C;exact C
 have H:aih w0 S0 E L w' i n sz (some k):=λk' D=>by cases D;refine⟨⟨l,ty,fr,z,by rw[M];exact q6,λo G U=>q7 o asP U⟩,λo G=>y.1 o asP,y.2,λj p c g s A=>h.tkloc i m sz t k j p c B r q g s A,λj K N t2 p I g f al e=>I (h.tkinj j K N t2 p i m sz t k g f al B r q e)⟩
 obtain⟨R,a⟩:=J.settok ⟨m,sz,B⟩ (λt2 f=>by rw[r]at f;cases f;omega) H;have u:({E with tok:=λj=>if j=i then some ⟨n,sz,some k⟩else E.tok j}:Env).le {mem:=λb o=>if b=k.blk/\m*sz<=o/\o<n*sz then w'.cell? ⟨b,o,none⟩else E.mem b o,loc:=E.loc,tok:=λj=>if j=i then some ⟨n,sz,some k⟩else E.tok j}:=
  ⟨V.mem,λ_ _ x=>x,λ_ t h=>⟨t,h,.inl rfl⟩⟩
 have S:∀(j X W:Nat) (t:Tok),(L.set i (.spare n sz))[j]?=some (.spare X W)->(if j=i then some (⟨n,sz,some k⟩:Tok)else E.tok j)=some t->(j=i/\X=n/\W=sz/\t=⟨n,sz,some k⟩)\/(j≠i/\L[j]?=some (.spare X W)/\E.tok j=some t):=λj X W t q r=>by rw[ap3]at q;by_cases e:j=i;subst e;rw[if_pos rfl]at q r;rw[if_pos T]at q;cases q;cases r;exact .inl ⟨rfl,rfl,rfl,rfl⟩;rw[if_neg (Ne.symm e)]at q;rw[if_neg e]at r;exact .inr ⟨e,q,r⟩
 refine⟨{mem:=λb o=>if b=k.blk/\m*sz<=o/\o<n*sz then w'.cell? ⟨b,o,none⟩else E.mem b o,loc:=E.loc,tok:=λj=>if j=i then some ⟨n,sz,some k⟩else E.tok j},R.trans u,?_,asQ,λo G U=>?_⟩;refine⟨λb o v C=>?_,λj p g=>?_,a.fresh,λj p c g s A=>⟨λo=>?_,(a.own j p c g s A).2⟩,a.inj,a.tkfresh,λj K s2 t2 d g f F=>⟨λo Q=>?_,(a.tkown j K s2 t2 d g f F).2⟩,a.tkloc,a.tkinj,a.frame,a.size,a.os,a.tape,a.output,a.glob.mono u.mem,a.gsz⟩;have C:(if b=k.blk/\m*sz<=o/\o<n*sz then w'.cell? ⟨b,o,none⟩else E.mem b o)=some v:=C;split at C;exact C;exact J.mem b o v C;rcases s:p.live with _|_;exact bZ.still (E:={E with tok:=λj=>if j=i then some ⟨n,sz,some k⟩else E.tok j}) (i:=j) s rfl (λ_ _ _ _ _ _ _=>rfl) (a.blk j p g);exact bZ.mono u s (a.blk j p g);have I:=a.tkloc i n sz ⟨n,sz,some k⟩ k j p c (by simp[T]) asQ rfl g s A;show(if c.blk=k.blk/\m*sz<=o/\o<n*sz then w'.cell? ⟨c.blk,o,none⟩else E.mem c.blk o)=none;rw[if_neg λe=>I e.1];exact(a.own j p c g s A).1 o;show(if d.blk=k.blk/\m*sz<=o/\o<n*sz then w'.cell? ⟨d.blk,o,none⟩else E.mem d.blk o)=none;rcases S j K s2 t2 g f with⟨rfl,rfl,rfl,rfl⟩|⟨n1,G,U⟩;rw[if_neg asP];exact(a.tkown _ _ _ _ d g f F).1 o Q;rw[if_neg λe=>n1 (h.tkinj j K s2 t2 d i m sz t k G U F B r q e.1)];exact(a.tkown _ _ _ _ d g f F).1 o Q;show(if k.blk=k.blk/\m*sz<=o/\o<n*sz then w'.cell? ⟨k.blk,o,none⟩else E.mem k.blk o)=l[o]?;rw[if_pos ⟨rfl,G,U⟩];simp[World.cell?,z]
mutual
def AV.frz:AV->AV
 |.nilsl=>.sl [] 0 none
 |.sl l n _=>.sl (AV.frzL l) n none
 |.gsl l n _ _=>.sl (AV.frzL l) n none
 |.agg l=>.agg (AV.frzL l)
 |.tup l=>.tup (AV.frzL l)
 |.iface t a=>.iface t (AV.frz a)
 |a=>a
def AV.frzL:List AV->List AV
 |[]=>[]
 |a::l=>AV.frz a::AV.frzL l
end
theorem AV.frzL_eq:∀(l:List AV),AV.frzL l=l.map AV.frz
 |[]=>rfl
 |a::l=>by simp[AV.frzL,AV.frzL_eq l]
theorem AV.frzL_length(l:List AV):(AV.frzL l).length=l.length:=by simp[AV.frzL_eq]
mutual
theorem VR.frz{E:Env}:∀(a:AV) (v:Value),VR E a v->VR E a.frz v
 |.undef,_,_=>by simp[VR,AV.frz]
 |.bool _,_,r=>by simpa[VR,AV.frz]using r
 |.anyb,_,r=>by simpa[VR,AV.frz]using r
 |.int _ _,_,r=>by simpa[VR,AV.frz]using r
 |.str _,_,r=>by simpa[VR,AV.frz]using r
 |.nilptr,_,r=>by simpa[VR,AV.frz]using r
 |.gptr _ _,_,r=>by simpa[VR,AV.frz]using r
 |.ptr _ _,_,r=>by simpa[VR,AV.frz]using r
 |.iptr _ _,_,r=>by simpa[VR,AV.frz]using r
 |.nilsl,v,r=>by simp only[VR,AV.frz]at r⊢;subst r;exact⟨none,0,asQ⟩
 |.sl l n cap,v,r=>by simp only[VR,AV.frz]at r⊢;obtain⟨p,c,d,e,j,h4⟩:=r;exact⟨p,c,d,e,asQ,h4.imp (λ⟨f,a2,a3⟩=>⟨f,a2,by subst a3;rfl⟩) λ⟨b,o,h,g⟩=>⟨b,o,h,VRC.frz l b o g⟩⟩
 |.lsl _ _ _ _ _,_,r=>by simpa[VR,AV.frz]using r
 |.gsl l n i sz,v,r=>by simp only[VR,AV.frz]at r⊢;obtain⟨p,c,d,e,j,h4,_⟩:=r;exact⟨p,c,d,e,asQ,h4.imp (λ⟨f,a2,a3⟩=>⟨f,a2,by subst a3;rfl⟩) λ⟨b,o,h,g⟩=>⟨b,o,h,VRC.frz l b o g⟩⟩
 |.nilmap,_,r=>by simpa[VR,AV.frz]using r
 |.lmap _,_,r=>by simpa[VR,AV.frz]using r
 |.yld _,_,r=>by simpa[VR,AV.frz]using r
 |.func _ _,_,r=>by simpa[VR,AV.frz]using r
 |.nilfunc,_,r=>by simpa[VR,AV.frz]using r
 |.nilif,_,r=>by simpa[VR,AV.frz]using r
 |.iface t a,v,r=>by simp only[VR,AV.frz]at r⊢;obtain⟨x,d,e⟩:=r;exact⟨x,d,VR.frz a x e⟩
 |.agg l,v,r=>by simp only[VR,AV.frz]at r⊢;obtain⟨vs,d,e⟩:=r;exact⟨vs,d,VRL.frz l vs e⟩
 |.tup l,v,r=>by simp only[VR,AV.frz]at r⊢;obtain⟨vs,d,e⟩:=r;exact⟨vs,d,VRL.frz l vs e⟩
theorem VRL.frz{E:Env}:∀(l:List AV) (vs:List Value),VRL E l vs->VRL E (AV.frzL l) vs
 |[],_,r=>by simpa[VRL,AV.frzL]using r
 |a::l,vs,r=>by simp only[VRL,AV.frzL]at r⊢;obtain⟨x,xs,d,c,b⟩:=r;exact⟨x,xs,d,VR.frz a x c,VRL.frz l xs b⟩
theorem VRC.frz{E:Env}:∀(l:List AV) (b o:Nat),VRC E l b o->VRC E (AV.frzL l) b o
 |[],_,_,_=>by simp[VRC,AV.frzL]
 |a::l,b,o,r=>by simp only[VRC,AV.frzL]at r⊢;obtain⟨⟨x,e,d⟩,c⟩:=r;exact⟨⟨x,e,VR.frz a x d⟩,VRC.frz l b (o+1) c⟩
end
inductive Opd where
 |tmp (t:Nat)
 |av (a:AV)
 deriving Inhabited
def abG:Value->Option AV
 |.bool b=>some (.bool b)
 |.int k n=>some (.int k n)
 |.string s=>some (.str s.data.toList)
 |.pointer none=>some .nilptr
 |.slice none 0 0=>some (.sl [] 0 (some 0))
 |.map none=>some .nilmap
 |.nilFunc=>some .nilfunc
 |.nilIface=>some .nilif
 |.func (.func f) ⟨[]⟩ ⟨[]⟩=>some (.func f [])
 |_=>none
def abF:List Value->Option (List AV)
 |[]=>some []
 | v::vs=>match abG v,abF vs with
   |some a,some l=>some (a::l)
   |_,_=>none
def alR:Value->Option AV
 |.agg ⟨vs⟩=>(abF vs).map .agg
 |.tuple ⟨[]⟩=>some (.tup [])
 |v=>abG v
def anq:Value->Option (List AV)
 |.agg ⟨vs⟩=>abF vs
 |v=>(abG v).map ([·])
theorem wb{a:AV}(h:abG v=some a):VR E a v/\a.one=true:=by
 unfold abG at h;split at h<;>simp at h<;>subst h<;>simp[VR,VRL,AV.one]
 grind
theorem N2{E:Env}:∀{vs:List Value}{l:List AV},abF vs=some l->VRL E l vs/\∀a∈l,AV.one a=true
 |[],l,h=>by simp[abF]at h;subst h;simp[VRL]
 |v::vs,l,h=>by simp only[abF]at h;split at h<;>simp at h;rename_i a m b c;subst h;have:=N2 (E:=E) c;exact⟨⟨v,vs,rfl,(wb b).1,this.1⟩,by simpa using⟨(wb (E:=E) b).2,this.2⟩⟩
theorem ZN{a:AV}(h:alR v=some a):VR E a v:=by unfold alR at h;split at h;simp only[ap6]at h;obtain⟨l,b,rfl⟩:=h;exact⟨_,rfl,(N2 b).1⟩;simp at h;subst h;simp[VR,VRL];exact(wb h).1
theorem afk(h:anq v=some l):VRL E l v.cells.toList/\∀a∈l,AV.one a=true:=by
 unfold anq at h;split at h;exact N2 h;simp only[ap6]at h;obtain⟨a,b,rfl⟩:=h;have:=wb (E:=E) b;have c:v.cells=#[v]:=by cases v<;>first|rfl|simp[abG]at b
 rw[c];exact⟨⟨v,[],rfl,this.1,rfl⟩,by simpa using this.2⟩
def bV:Operand->Option Opd
 |.tmp t=>some (.tmp t)
 |.const v=>(alR v).map .av
 |.func f=>some (.av (.func f []))
 |.global g=>some (.av (.gptr g 0))
def evX(T:Tm):Opd->Option AV
 |.tmp t=>ay T t
 |.av a=>some a
theorem ao{x:Operand}{y:Opd}{v:AV}(h:bV x=some y)(b:evX T y=some v)(c:TR E T a):VR E v (a.eval x):=by unfold bV at h;split at h<;>simp at h;subst h;exact c _ _ b;obtain⟨u,d,rfl⟩:=h;simp[evX]at b;subst b;exact ZN d;subst h;simp[evX]at b;subst b;simp[VR,VRL,Act.eval];subst h;simp[evX]at b;subst b;rfl
def AV.cells?:AV->Option (List AV)
 |.agg l=>some l
 |.undef|.tup _=>none
 |a=>some [a]
theorem rE{a:AV}(h:a.cells?=some l)(c:VR E a v):VRL E l v.cells.toList:=by
 rcases ho:a.one with _|_;cases a<;>simp[AV.one]at ho<;>simp[AV.cells?]at h;subst h;obtain⟨vs,rfl,e⟩:=c;exact e;have d:l=[a]:=by cases a<;>simp[AV.one]at ho<;>simp[AV.cells?]at h<;>exact h.symm
 subst d;have b:=c.one ho;have:v.cells=#[v]:=by cases v<;>first|rfl|simp[Value.one]at b
 rw[this];exact⟨v,[],rfl,c,rfl⟩
def d7(l:List AV)(off:Nat)(vals:List AV):List AV:=l.take off++vals++l.drop (off+vals.length)
def deg:AV->AV
 | .gptr g off=>match gb g with
   |some l=>.iptr l off
   |none=>.gptr g off
 |a=>a
theorem ah2(h:Rel w0 S0 E L w){a:AV}(hv:VR E a v):VR E (deg a) v:=by
 cases a
 case gptr g off =>
  simp only[deg];split
  .rename_i l hl;subst hv;exact⟨g,0,asQ,h.glob.env (ET hl)⟩
  omega
 all_goals exact hv
def evD(T:Tm)(x:Opd):Option AV:=(evX T x).map deg
theorem kl(h:Rel w0 S0 E L w){x:Operand}{y:Opd}{v:AV}(c:bV x=some y)(b:evD T y=some v)(d:TR E T a):VR E v (a.eval x):=by simp only[evD,ap6]at b;obtain⟨u,e,rfl⟩:=b;exact ah2 h (ao c e d)
def row(L:List Blk):AV->Option (List AV×Nat)
 | .ptr i off=>match L[i]? with
   |some (.cells l)=>some (l,off)
   |some (.bytes l)=>some (l,off)
   |_=>none
 |.iptr l off=>some (l,off)
 |_=>none
theorem Wx(h:Rel w0 S0 E L w){p:AV}(d:row L p=some (l,off))(n:VR E p v):
  ∃b o,v=.pointer (some ⟨b,o+off,none⟩)/\∀(j:Nat) (a:AV),l[j]?=some a->∃x,w.cell? ⟨b,o+j,none⟩=some x/\VR E a x:=by
 unfold row at d;split at d;rename_i i t;split at d;rename_i z m;simp at d;obtain⟨rfl,rfl⟩:=d;obtain⟨c,g,rfl⟩:=n;obtain⟨c',cs,ty,fr,e,k,y,h4,s,u⟩:=h.blk i _ m;rw[g]at e;cases e;refine⟨c.blk,c.off,rfl,λj a f=>?_⟩;obtain⟨x,q,r⟩:=s j a f;exact⟨x,by simp[World.cell?,k,q],r⟩;rename_i z m;simp at d;obtain⟨rfl,rfl⟩:=d;obtain⟨c,g,rfl⟩:=n;obtain⟨c',cs,ty,fr,e,k,y,h4,s,u⟩:=h.blk i _ m;rw[g]at e;cases e;refine⟨c.blk,c.off,rfl,λj a f=>?_⟩;obtain⟨x,q,r⟩:=s j a f;exact⟨x,by simp[World.cell?,k,q],r⟩;simp_all;simp at d;obtain⟨rfl,rfl⟩:=d;obtain⟨b,o,rfl,g⟩:=n;refine⟨b,o,rfl,λj a f=>?_⟩;obtain⟨x,e,k⟩:=g.get f;exact⟨x,h.mem _ _ _ e,k⟩;simp_all
theorem Addr.add_mk(b o n:Nat):(Addr.mk b o none).add n=⟨b,o+n,none⟩:=by unfold Addr.add;simp
theorem aak{E:Env}{w:World}{b o:Nat}:∀{l:List AV},(∀(j:Nat) (a:AV),l[j]?=some a->∃x,w.cell? ⟨b,o+j,none⟩=some x/\VR E a x) ->
  ∃cs:List Value,VRL E l cs/\∀(j:Nat) (v:Value),cs[j]?=some v->w.cell? ⟨b,o+j,none⟩=some v
 |[],_=>⟨[],by simp[VRL],asQ⟩
 | a::l,h=>by
   obtain⟨x,g,e⟩:=h 0 a asQ;obtain⟨cs,c,h4⟩:=aak (b:=b) (o:=o+1) (l:=l) λj a d=>by have:=h (j+1) a (by simpa using d);rwa[show o+(j+1)=o+1+j by omega]at this
   refine⟨x::cs,⟨x,cs,rfl,e,c⟩,λj v f=>?_⟩
   grind
theorem jd{o:Nat}(h:∀(j:Nat) (a:AV),l[j]?=some a->∃x,w.cell? ⟨b,o+j,none⟩=some x/\VR E a x):
  ∃cs:List Value,VRL E l cs/\(loadCells ⟨b,o,none⟩ l.length).run P w=.ok cs.toArray w:=by
 obtain⟨cs,c,e⟩:=aak h;refine⟨cs,c,?_⟩;rw[<- c.length];exact run_loadCells_list w _ cs λj v d=>by rw[Addr.add_mk];exact e j v d
theorem jv{P:Program}{b:Nat}{ty:TypeId}{fr:Nat×Nat}:∀(vs:List Value) (w:World) (cs:Array Value) (o i:Nat),w.heap[b]?=some (.cells cs ty fr)->(∀v∈vs,Value.one v=true) ->
  o+i+vs.length<=cs.size->(∀k,o+i<=k->k<o+i+vs.length->¬(fr.1<=k/\k<fr.2)) ->
  ∃w' a,(storeCells ⟨b,o,none⟩ vs i).run P w=.ok () w'/\w'.heap.size=w.heap.size/\(∀k,k≠b->w'.heap[k]?=w.heap[k]?)/\w'.os=w.os/\w'.tape=w.tape/\w'.output=w.output /\
   w'.heap[b]?=some (.cells a ty fr)/\a.size=cs.size/\∀k,a[k]?=if o+i<=k/\k<o+i+vs.length then vs[k-(o+i)]? else cs[k]?
 |[],w,cs,o,i,hb,_,_,_=>⟨w,cs,by simp[storeCells],rfl,λ_ _=>rfl,rfl,rfl,rfl,hb,rfl,λk=>by rw[if_neg asQ]⟩
 | v::vs,w,cs,o,i,hb,hone,hlen,hfr=>by
   simp only[apC]at hlen hfr;have c:w.cell? ⟨b,o+i,none⟩=some cs[o+i]:=(by simp[World.cell?,hb]);have f:w.frozen? ⟨b,o+i,none⟩=false:=by have:=hfr (o+i) (apt _) asP;simp[World.frozen?,hb];omega
   have p:v.oneCell'=true:=by cases v<;>simp_all[Value.one,Value.oneCell']
   have d:(store ((⟨b,o,none⟩:Addr).add i) v).run P w=.ok () (w.setCell ⟨b,o+i,none⟩ v):=by rw[run_store P w _ v .plain p,Addr.add_mk,c];simp[f]
   have e:(w.setCell ⟨b,o+i,none⟩ v).heap[b]?=some (.cells (cs.setIfInBounds (o+i) v) ty fr):=by simp[World.setCell,arp,hb]
   obtain⟨w',a,z,u,h,g,n,q,r,j,t⟩:=jv (P:=P) vs (w.setCell ⟨b,o+i,none⟩ v) (cs.setIfInBounds (o+i) v) o (i+1) e (λx m=>hone x (by simp[m])) (by simp;omega) (λk y s=>hfr k asP asP);refine⟨w',a,?_,?_,λk l=>?_,g,n,q,r,by simpa using j,λk=>?_⟩
   .simp only[storeCells,apA,d,apE];omega
   .simp[*]
   .rw[h k l];simp only[World.setCell,arp]
    grind
   grind
theorem Sv{k:Nat}(h:off+vals.length<=l.length):(d7 l off vals)[k]?=if off<=k/\k<off+vals.length then vals[k-off]? else l[k]?:=by
 simp only[d7,apG]
 grind
theorem nH(h:off+vals.length<=l.length):(d7 l off vals).length=l.length:=by simp[d7];omega
theorem TA(h:Rel w0 S0 E L w)(t:L[i]?=some (.cells l))(n:E.loc i=some c){vs:List Value}(g:VRL E vals vs)(e:∀a∈vals,AV.one a=true)(b:off+vals.length<=l.length):
  ∃w',(storeCells ⟨c.blk,c.off+off,none⟩ vs).run P w=.ok () w'/\Rel w0 S0 E (L.set i (.cells (d7 l off vals))) w':=by
 obtain⟨c',cs,ty,fr,r,G,J,h4,N,q⟩:=h.blk i _ t;rw[n]at r;cases r;have M:=g.length;obtain⟨w',o,A,F,C,B,v,D,z,H,K⟩:=jv (P:=P) vs w cs (c.off+off) 0 G (λx u=>by obtain⟨j,s⟩:=arf.1 u;have d:j<vals.length:=(by have:=(aps.1 s).1;omega);obtain⟨y,f,p⟩:=g.get (apD d);rw[s]at f;cases f;exact p.one (e _ (aqr d))) asP (λk f p=>q k asP asP)
 refine⟨w',A,h.turn t rfl n F C B v D ?_ asQ⟩;refine⟨c,o,ty,fr,n,z,asP,by rw[nH b];exact h4,λj a m=>?_,q⟩;rw[Sv b]at m;by_cases f:off<=j/\j<off+vals.length;rw[if_pos f]at m;obtain⟨x,p,I⟩:=g.get m
 grind
 grind
theorem ag8(h:Rel w0 S0 E L w)(t:L[i]?=some (.bytes l))(n:E.loc i=some c){vs:List Value}(g:VRL E vals vs)(e:∀a∈vals,AV.one a=true)(b:off+vals.length<=l.length):
  ∃w',(storeCells ⟨c.blk,c.off+off,none⟩ vs).run P w=.ok () w'/\Rel w0 S0 E (L.set i (.bytes (d7 l off vals))) w':=by
 obtain⟨c',cs,ty,fr,r,H,K,h4,N,q⟩:=h.blk i _ t;rw[n]at r;cases r;have M:=g.length;obtain⟨w',o,A,G,C,B,v,D,z,I,F⟩:=jv (P:=P) vs w cs (c.off+off) 0 H (λx u=>by obtain⟨j,s⟩:=arf.1 u;have d:j<vals.length:=(by have:=(aps.1 s).1;omega);obtain⟨y,f,p⟩:=g.get (apD d);rw[s]at f;cases f;exact p.one (e _ (aqr d))) asP (λk f p=>q k asP asP)
 refine⟨w',A,h.turn t rfl n G C B v D ?_ asQ⟩;refine⟨c,o,ty,fr,n,z,asP,by rw[nH b];exact h4,λj a m=>?_,q⟩;rw[Sv b]at m;rw[F];by_cases f:off<=j/\j<off+vals.length;rw[if_pos f]at m;rw[if_pos asP];obtain⟨x,p,J⟩:=g.get m
 grind
 grind
inductive EqK where
 |bool|ptr|slice|map|func|iface
 deriving DecidableEq,Inhabited
inductive Fu where
 |int|str|bool
 deriving DecidableEq,Inhabited
inductive l5 where
 |int|str|bool
 |st (ks:List Fu)
 deriving DecidableEq,Inhabited
inductive LOp where
 |mv (x:Opd)
 |pick (c a b:Opd)
 |alloc (z:List AV)
 |box (x:Opd)
 |build (z:List AV) (ps:List (Nat×Nat×Opd))
 |bslice (own:Bool) (sz n:Nat) (z:List AV) (ps:List (Nat×Nat×Opd))
 |load (agg:Bool) (sz:Nat) (a:Opd)
 |store (sz:Nat) (a x:Opd)
 |nilchk (x:Opd)
 |bin (op:BinOp) (x y:Opd)
 |eqk (neg:Bool) (k:EqK) (x y:Opd)
 |eq2 (neg:Bool) (x y:Opd)
 |slnil (neg:Bool) (x:Opd)
 |un (op:UnOp) (x:Opd)
 |conv (k:IntKind) (x:Opd)
 |sconv (x:Opd)
 |b2s (x:Opd)
 |s2b (x:Opd)
 |s2bO (x:Opd)
 |s2bG (x:Opd)
 |rangeS (x:Opd)
 |nextS (x:Opd)
 |mkif (t:TypeId) (x:Opd)
 |mkfn (f:FuncId) (caps:List Opd)
 |mkslice (sz bytes:Nat) (z:List AV) (l c:Opd)
 |slS (x:Opd) (lo hi:Option Opd)
 |slV (sz:Nat) (x:Opd) (lo hi mx:Option Opd)
 |slA (n sz:Nat) (x:Opd) (lo hi:Option Opd)
 |faddr (off:Nat) (x:Opd)
 |field (agg:Bool) (off sz:Nat) (x:Opd)
 |iaddr (sz:Nat) (x i:Opd)
 |iaddrA (n sz:Nat) (x i:Opd)
 |idxS (x i:Opd)
 |extract (x:Opd) (i:Nat)
 |len (str:Bool) (x:Opd)
 |cap (x:Opd)
 |bad
 |appz (sz bytes:Nat) (z:List AV) (a n:Opd)
 |app (own:Nat) (sz bytes:Nat) (z:List AV) (a b:Opd)
 |copy (sz:Nat) (a b:Opd)
 |clear (sz:Nat) (z:List AV) (x:Opd)
 |minmax (mx:Bool) (xs:List Opd)
 |mkmap
 |mget (kd:l5) (ok:Bool) (z:AV) (m k:Opd)
 |mset (kd:l5) (m k v:Opd)
 |mdel (kd:l5) (m k:Opd)
 |mlen (m:Opd)
 |mrange (x:Opd)
 |mnext (x:Opd)
 |mentry (x:Opd)
 |call (f:FuncId) (xs:List Opd)
 |callv (f:Opd) (xs:List Opd)
 deriving Inhabited
def oY(l:List Operand):Option (List Opd):=l.mapM bV
def wa:Option Operand->Option (Option Opd)
 |none=>some none
 |some x=>(bV x).map some
def dt(P:Program)(t:TypeId):Option Nat:=(P.info? t).map (·.size)
def aaD(P:Program)(t:TypeId):Option Nat:=(P.info? t).map (·.bytes)
def zOf(P:Program)(t:TypeId):Option (List AV):=((P.info? t).bind (·.zero)).bind anq
def nB(P:Program)(t:TypeId):Option Bool :=
 match P.underlying t with
 |some (.struct _)|some (.array _ _)=>some true
 |some _=>some false
 |none=>none
def gq(z:List AV):Nat->List AV
 |0=>[]
 |n+1=>z++gq z n
def VT(P:Program)(d:TypeDesc)(i:Nat):Option (Nat×Nat):=
 match d with
 | .struct fs=>match fs.toList[i]? with
   |some f=>(dt P f.type).map λs=>(f.offset,s)
   |none=>none
 |.array _ e|.slice e=>(dt P e).map λs=>(i*s,s)
 |_=>none
def iC(P:Program)(d:TypeDesc):List (Nat×Operand)->Option (List (Nat×Nat×Opd))
 |[]=>some []
 | (i,x)::l=>match VT P d i,bV x,iC P d l with
   |some (o,s),some y,some m=>some ((o,s,y)::m)
   |_,_,_=>none
def EO(P:Program)(own:Nat)(s d:TypeId)(x:Opd):Option LOp :=
 match P.underlying s,P.underlying d with
 |some (.int _),some (.int k)=>some (.conv k x)
 |some .string,some .string=>some (.sconv x)
 | some (.slice e),some .string=>match P.underlying e with
   |some (.int .u8)=>some (.b2s x)
   |_=>none
 | some .string,some (.slice e)=>match P.underlying e with
   |some (.int .u8)=>if own=2 then some (.s2bO x)else if own=5 then some (.s2bG x)else some (.s2b x)
   |_=>none
 |_,_=>none
def lN:Operand->Bool
 |.const _=>true
 |_=>false
def ZU:Operand->Bool
 |.const (.slice none 0 0)=>true
 |_=>false
def afl(P:Program)(t:TypeId):Option Fu :=
 match P.underlying t with
 |some (.int _)=>some .int
 |some .string=>some .str
 |some .bool=>some .bool
 |_=>none
def ad1(P:Program):Nat->List Field->Option (List Fu)
 |_,[]=>some []
 | i,f::fs=>if f.offset=i/\f.name ≠ "_" then match afl P f.type,ad1 P (i+1) fs with
   |some k,some ks=>some (k::ks)
   |_,_=>none
   else none
def gZ(P:Program)(kt:TypeId):Option l5 :=
 match P.underlying kt with
 |some (.int _)=>some .int
 |some .string=>some .str
 |some .bool=>some .bool
 |some (.struct fs)=>if P.stoodInHeld kt=false then(ad1 P 0 fs.toList).map .st else none
 |_=>none
def ajL(P:Program)(t:TypeId):Bool:=match gZ P t with
 |some (.st [.str,.str]) => !P.eqGuardType P.depth t
 |_=>false
def SJ(P:Program)(op:BinOp)(t:TypeId)(x y:Operand):Option LOp :=
 match bV x,bV y with
 | some x',some y'=>match P.underlying t with
   |some (.int _)|some .string=>some (.bin op x' y')
   | some d=>match op,d with
     |.eql,.bool=>some (.eqk false .bool x' y')
     |.neq,.bool=>some (.eqk true .bool x' y')
     |.eql,.pointer _=>some (.eqk false .ptr x' y')
     |.neq,.pointer _=>some (.eqk true .ptr x' y')
     |.eql,.slice _=>if ZU y=true then some (.slnil false x')else none
     |.neq,.slice _=>if ZU y=true then some (.slnil true x')else none
     |.eql,.map _ _=>some (.eqk false .map x' y')
     |.neq,.map _ _=>some (.eqk true .map x' y')
     |.eql,.func _ _ _=>some (.eqk false .func x' y')
     |.neq,.func _ _ _=>some (.eqk true .func x' y')
     |.eql,.interface _=>if lN x ||lN y then some (.eqk false .iface x' y')else none
     |.neq,.interface _=>if lN x ||lN y then some (.eqk true .iface x' y')else none
     |.eql,.struct _=>if ajL P t=true then some (.eq2 false x' y')else none
     |.neq,.struct _=>if ajL P t=true then some (.eq2 true x' y')else none
     |_,_=>none
   |none=>none
 |_,_=>none
def anl:Fu->AV->Bool
 |.int,.int _ _=>true
 |.str,.str _=>true
 |.bool,.bool _=>true
 |_,_=>false
def th:List Fu->List AV->Bool
 |[],[]=>true
 |k::ks,a::l=>anl k a&&th ks l
 |_,_=>false
def bT:l5->AV->Bool
 |.int,.int _ _=>true
 |.str,.str _=>true
 |.bool,.bool _=>true
 |.st ks,.agg l=>th ks l
 |_,_=>false
def ZR:AV->AV->Option Bool
 |.int k a,.int j b=>if k=j then some (decide (a=b))else none
 |.str a,.str b=>some (decide (a=b))
 |.bool a,.bool b=>some (decide (a=b))
 |_,_=>none
def JW:List AV->List AV->Option Bool
 |[],[]=>some true
 | a::l,b::m=>match ZR a b with
   |some true=>JW l m
   |r=>r
 |_,_=>none
def J3:AV->AV->Option Bool
 |.int k a,.int j b=>if k=j then some (decide (a=b))else none
 |.str a,.str b=>some (decide (a=b))
 |.bool a,.bool b=>some (decide (a=b))
 |.agg l,.agg m=>JW l m
 |_,_=>none
def dH(k:AV):List (AV×AV×Nat)->Nat->Option (Option (Nat×AV))
 |[],_=>some none
 | (q,x,_)::l,i=>match J3 k q with
   |some true=>some (some (i,x))
   |some false=>dH k l (i+1)
   |none=>none
def ajx(k v:AV):List (AV×AV×Nat)->Nat->List (AV×AV×Nat)
 |[],_=>[]
 |(_,_,b)::l,0=>(k,v,b)::l
 |e::l,j+1=>e::ajx k v l j
def ajw(es:List (AV×AV×Nat))(since:Nat)(seen:List Nat)(last:Nat):Option (Option (AV×AV×Nat)):=
 if(!seen.isEmpty && !es.isEmpty&&es.all λe=>decide (last<=e.2.2))=true then none else
 match(es.filter λe => !seen.contains e.2.2).filter (λe=>decide (e.2.2<since)),(es.filter λe => !seen.contains e.2.2).filter (λe=>decide (since<=e.2.2))with
 |[],[]=>some none
 |[e],[]=>some (some e)
 |_,_=>none
def abD(L:List Blk)(i j since:Nat)(seen:List Nat)(ck:Nat):Option (AV×AV×Nat)->List Blk
 |none=>L
 |some e=>L.set i (.miter (some j) since (seen++[e.2.2]) ck)
def V0:Option (AV×AV×Nat)->AV
 |none=>.tup [.bool false]
 |some e=>.tup [.bool true,e.1,e.2.1]
def mat(es:List (AV×AV×Nat))(ck:Nat)(seen:List Nat)(stepped:Nat):Option (AV×AV×Nat):=
 match seen.getLast? with
 |some b=>if ck=stepped then es.find? (λe=>Nat.beq e.2.2 b)else none
 |none=>none
def ais(P:Program)(t:TypeId):Option AV:=((P.info? t).bind (·.zero)).bind alR
def dI(P:Program)(own:Nat)(b:Builtin)(ts:List TypeId)(xs:List Opd):Option LOp :=
 match b,ts,xs with
 | .len,[t],[x]=>match P.underlying t with
   |some .string=>some (.len true x)
   |some (.slice _)=>some (.len false x)
   |some (.array n _)=>some (.mv (.av (.int .i64 n)))
   |some (.map _ _)=>some (.mlen x)
   |_=>none
 | .cap,[t],[x]=>match P.underlying t with
   |some (.slice _)=>some (.cap x)
   |some (.array n _)=>some (.mv (.av (.int .i64 n)))
   |_=>none
 | .append,[t,t'],[x,y]=>match P.underlying t,P.underlying t' with
   | some (.slice e),some (.slice _)|some (.slice e),some .string=>match dt P e,aaD P e,zOf P e with
     |some s,some by',some z=>if z.length=s then some (.app own s by' z x y)else none
     |_,_,_=>none
   | some (.slice e),some (.int _)=>match dt P e,aaD P e,zOf P e with
     |some s,some by',some z=>if z.length=s then some (.appz s by' z x y)else none
     |_,_,_=>none
   |_,_=>none
 | .copy,[t,_],[x,y]=>match P.underlying t with
   |some (.slice e)=>(dt P e).map λs=>.copy s x y
   |_=>none
 | .clear,[t],[x]=>match P.underlying t with
   | some (.slice e)=>match dt P e,zOf P e with
     |some s,some z=>if z.length=s then some (.clear s z x)else none
     |_,_=>none
   |_=>none
 | .delete,[t,_],[m,k]=>match P.underlying t with
   |some (.map kt _)=>(gZ P kt).map λkd=>.mdel kd m k
   |_=>none
 |.max,_,[x,y]=>some (.minmax true [x,y])
 |.min,_,[x,y]=>some (.minmax false [x,y])
 |_,_,_=>none
def kk(P:Program)(own:Nat)(op:Op):Option LOp :=
 match op with
 |.move x|.assign x=>(bV x).map .mv
 | .pick c a b=>match bV c,bV a,bV b with
   |some c,some a,some b=>some (.pick c a b)
   |_,_,_=>none
 |.alloc t=>(zOf P t).map .alloc
 |.box _ x=>(bV x).map .box
 | .build t ps=>match P.underlying t,zOf P t with
   | some d,some z=>match d with
     |.struct fs=>if fs.toList.all (λf=>(dt P f.type).isSome)=true then(iC P d ps.toList).map (.build z)else none
     |.array _ e=>if(dt P e).isSome=true then(iC P d ps.toList).map (.build z)else none
     |_=>none
   |_,_=>none
 | .buildSlice t n ps=>match P.underlying t with
   | some (.slice e)=>match dt P e,zOf P e,iC P (.slice e) ps.toList with
     |some s,some z,some m=>if z.length=s/\n*s<=2^24 then some (.bslice (own == 2) s n (gq z n) m)else none
     |_,_,_=>none
   |_=>none
 | .load t x=>match nB P t,dt P t,bV x with
   |some g,some s,some y=>some (.load g s y)
   |_,_,_=>none
 | .store t a x=>match dt P t,bV a,bV x with
   |some s,some a,some x=>some (.store s a x)
   |_,_,_=>none
 |.nilCheck x=>(bV x).map .nilchk
 |.binOp op t x y _=>SJ P op t x y
 |.unOp op _ x=>(bV x).map (.un op)
 |.convert s d x=>(bV x).bind (EO P own s d)
 | .makeInterface t x=>match P.underlying t with
   |some (.interface _)|none=>none
   |some _=>(bV x).map (.mkif t)
 | .makeFunc fn first caps=>match fn with
   |.func f=>if first.toList.isEmpty=true then(oY caps.toList).map (.mkfn f)else none
   |_=>none
 | .makeSlice t l c=>match P.underlying t with
   | some (.slice e)=>match dt P e,aaD P e,zOf P e,bV l,bV c with
     |some s,some b,some z,some l,some c=>if z.length=s/\0<s then some (.mkslice s b z l c)else none
     |_,_,_,_,_=>none
   |_=>none
 | .slice t x lo hi mx=>match P.underlying t,bV x,wa lo,wa hi,wa mx with
   |some .string,some x,some lo,some hi,some none=>some (.slS x lo hi)
   |some (.slice e),some x,some lo,some hi,some mx=>(dt P e).map λs=>.slV s x lo hi mx
   |some (.array n e),some x,some lo,some hi,some none=>(dt P e).map λs=>.slA n s x lo hi
   |_,_,_,_,_=>none
 | .fieldAddr t x f=>match P.underlying t,bV x with
   | some (.struct fs),some x=>match fs.toList[f]? with
     |some fd=>if(dt P fd.type).getD 0=0 then none else some (.faddr fd.offset x)
     |none=>none
   |_,_=>none
 | .field t x f=>match P.underlying t,bV x with
   | some (.struct fs),some x=>match fs.toList[f]? with
     | some fd=>match nB P fd.type,dt P fd.type with
       |some g,some s=>some (.field g fd.offset s x)
       |_,_=>none
     |none=>none
   |_,_=>none
 | .indexAddr t x i=>match P.underlying t,bV x,bV i with
   |some (.slice e),some x,some i=>(dt P e).map λs=>.iaddr s x i
   |some (.array n e),some x,some i=>(dt P e).map λs=>.iaddrA n s x i
   |_,_,_=>none
 | .index t x i=>match P.underlying t,bV x,bV i with
   |some .string,some x,some i=>some (.idxS x i)
   |_,_,_=>none
 |.extract x i=>(bV x).map (.extract · i)
 | .makeMap t none=>match P.underlying t with
   |some (.map _ _)=>some .mkmap
   |_=>none
 | .lookup t m k ok=>match P.underlying t,bV m,bV k with
   | some (.map kt et),some m,some k=>match gZ P kt,ais P et with
     |some kd,some z=>some (.mget kd ok z m k)
     |_,_=>none
   |_,_,_=>none
 | .mapUpdate t m k v=>match P.underlying t,bV m,bV k,bV v with
   |some (.map kt _),some m,some k,some v=>(gZ P kt).map λkd=>.mset kd m k v
   |_,_,_,_=>none
 | .range t x=>match P.underlying t with
   |some .string=>(bV x).map .rangeS
   |some (.map _ _)=>(bV x).map .mrange
   |_=>none
 |.next x isS=>if isS=true then(bV x).map .nextS else(bV x).map .mnext
 |.entry x=>(bV x).map .mentry
 | .call c=>match oY c.args.toList with
   | some xs=>match c.callee with
     |.value (.func f)=>some (.call f xs)
     |.value x=>(bV x).map (.callv · xs)
     |.builtin b=>dI P own b c.argTypes.toList xs
     |_=>none
   |none=>none
 |_=>none
def je(T:Tm):List Opd->Option (List AV)
 |[]=>some []
 | x::l=>match evX T x,je T l with
   |some a,some m=>some (a::m)
   |_,_=>none
def lP(T:Tm)(z:List AV):List (Nat×Nat×Opd)->Option (List AV)
 |[]=>some z
 | (o,s,x)::l=>match (evX T x).bind AV.cells? with
   |some vals=>if vals.length=s/\o+s<=z.length then lP T (d7 z o vals) l else none
   |none=>none
def amk(op:BinOp)(k:IntKind)(a b:Int):Option (Prop×AV):=
 match op with
 |.add=>some (True,.int k (k.wrap (a+b)))
 |.sub=>some (True,.int k (k.wrap (a-b)))
 |.mul=>some (True,.int k (k.wrap (a*b)))
 |.quo=>some (b≠0,.int k (k.wrap (a.tdiv b)))
 |.rem=>some (b≠0,.int k (a.tmod b))
 |.and=>some (True,.int k (k.wrap (BitVec.ofInt k.bits a &&& BitVec.ofInt k.bits b).toNat))
 |.or=>some (True,.int k (k.wrap (BitVec.ofInt k.bits a |||BitVec.ofInt k.bits b).toNat))
 |.xor=>some (True,.int k (k.wrap (BitVec.ofInt k.bits a ^^^ BitVec.ofInt k.bits b).toNat))
 |.andNot=>some (True,.int k (k.wrap (BitVec.ofInt k.bits a &&& ~~~BitVec.ofInt k.bits b).toNat))
 |.eql=>some (True,.bool (decide (a=b)))
 |.neq=>some (True,.bool (!decide (a=b)))
 |.lss=>some (True,.bool (decide (a<b)))
 |.leq=>some (True,.bool (decide (a<=b)))
 |.gtr=>some (True,.bool (decide (b<a)))
 |.geq=>some (True,.bool (decide (b<=a)))
 |_=>none
def amj(op:BinOp)(x y:List UInt8):Option (Prop×AV):=
 match op with
 |.add=>some (((x.length+y.length:Nat):Int)<=9223372036854775807,.str (x++y))
 |.eql=>some (True,.bool (decide (x=y)))
 |.neq=>some (True,.bool (!decide (x=y)))
 |.lss=>some (True,.bool (Op.bytesLess x y))
 |.leq=>some (True,.bool (Op.bytesLess x y ||decide (x=y)))
 |.gtr=>some (True,.bool (!(Op.bytesLess x y ||decide (x=y))))
 |.geq=>some (True,.bool (!Op.bytesLess x y))
 |_=>none
def bin(op:BinOp)(x y:AV):Option (Prop×AV):=
 match op,x,y with
 |.shl,.int k a,.int _ b=>some (0<=b,.int k (k.wrap (a*2^(min b.toNat k.bits))))
 |.shr,.int k a,.int _ b=>some (0<=b,.int k (a.fdiv (2^(min b.toNat k.bits))))
 |op,.int k a,.int k' b=>if k=k' then amk op k a b else none
 |op,.str a,.str b=>amj op a b
 |_,_,_=>none
def eqA(k:EqK)(x y:AV):Option Bool :=
 match k,x,y with
 |.bool,.bool a,.bool b=>some (decide (a=b))
 |.ptr,.nilptr,.nilptr=>some true
 |.ptr,.nilptr,.ptr _ _|.ptr,.nilptr,.iptr _ _|.ptr,.ptr _ _,.nilptr|.ptr,.iptr _ _,.nilptr=>some false
 |.slice,.nilsl,.nilsl=>some true
 |.slice,.nilsl,.lsl _ _ _ _ _|.slice,.lsl _ _ _ _ _,.nilsl=>some false
 |.map,.nilmap,.nilmap=>some true
 |.map,.nilmap,.lmap _|.map,.lmap _,.nilmap=>some false
 |.func,.nilfunc,.nilfunc=>some true
 |.func,.nilfunc,.func _ _|.func,.func _ _,.nilfunc=>some false
 |.iface,.nilif,.nilif=>some true
 |.iface,.nilif,.iface _ _|.iface,.iface _ _,.nilif=>some false
 |_,_,_=>none
def un(op:UnOp)(x:AV):Option AV :=
 match op,x with
 |.neg,.int k n=>some (.int k (k.wrap (0-n)))
 |.not,.bool b=>some (.bool (!b))
 |_,_=>none
def ach:AV->UInt8
 |.int .u8 n=>UInt8.ofNat n.toNat
 |_=>0
def aft:AV->Bool
 |.int .u8 _=>true
 |_=>false
def u8s(l:List UInt8):List AV:=l.map λb=>.int .u8 b.toNat
def elems(L:List Blk)(sz:Nat):AV->Option (Prop×List AV×Nat)
 |.nilsl=>some (True,[],0)
 |.sl l n _=>some (l.length=n*sz,l,n)
 |.gsl l n _ s=>some (s=sz,l,n)
 | .lsl i off n _ _=>match L[i]? with
   |some (.cells l)=>some (off+n*sz<=l.length,(l.drop off).take (n*sz),n)
   |some (.bytes l)=>some (off+n*sz<=l.length,(l.drop off).take (n*sz),n)
   |_=>none
 |.str s=>if sz=1 then some (True,u8s s,s.length)else none
 |_=>none
def bnd(T:Tm):Option Opd->Option (Option Int)
 |none=>some none
 | some x=>match evX T x with
   |some (.int _ n)=>some (some n)
   |_=>none
def aaK(L:List Blk)(old new:List AV)(n sz:Nat)(dead:Option Nat):AV×List Blk :=
 (.lsl L.length 0 n none sz,(match dead with|some i=>L.set i .dead|none=>L)++[.cells (old++new)])
def app(own : Nat)(sz bytes : Nat)(L : List Blk)(a b : AV): Option (Prop × AV × List Blk) :=
 match elems L sz b with
 |none=>none
 | some (c, new, n) => match a with
   | .sl l m (some k) =>
     if own=1 then some (c/\m=k/\l.length=m*sz/\(m+n)*bytes<=140737488355328/\m+n<=140737488355328,.gsl (l++AV.frzL new) (m+n) L.length sz,L++[.spare (m+n) sz])
     else if own=2 then(if n=0 then some (c/\m<=k,.sl l m (some k),L)else some (c/\m=k/\l.length=m*sz/\(m+n)*bytes<=140737488355328/\m+n<=140737488355328,aaK L l new (m+n) sz none))
     else some (c/\m=k/\l.length=m*sz/\(m+n)*bytes<=140737488355328/\m+n<=140737488355328,.sl (l++AV.frzL new) (m+n) none,L)
   | .gsl l m i s=>match L[i]? with
     |some (.spare m' s')=>some (c/\new.all AV.one=true/\s=sz/\m'=m/\s'=sz/\(m+n)*bytes<=140737488355328/\m+n<=140737488355328,.gsl (l++AV.frzL new) (m+n) i sz,L.set i (.spare (m+n) sz))
     |_=>none
   | .lsl i off m cp s=>match L[i]? with
     | some (.cells l) =>
       if s=sz then(if own=4 then(match cp with
         |some rc=>some (c/\new.all AV.one=true/\off+(m+n)*sz<=l.length/\m+n<=rc,.lsl i off (m+n) (some rc) sz,L.set i (.cells (d7 l (off+m*sz) new)))
         |none=>none)
        else some (c/\new.all AV.one=true/\off+m*sz<=l.length/\(m+n)*bytes<=140737488355328/\m+n<=140737488355328,aaK L ((l.drop off).take (m*sz)) new (m+n) sz (some i)))else none
     |_=>none
   |_=>none
def Yr(s:List UInt8)(p:Nat):Nat×Nat:=Utf8.decode ⟨⟨s⟩⟩ p
def au(T:Tm)(L:List Blk):LOp->Option (Prop×AV×List Blk)
 |.mv x=>(evX T x).map λv=>(True,v,L)
 | .pick c a b=>match evX T c with
   |some (.bool true)=>(evX T a).map λv=>(True,v,L)
   |some (.bool false)=>(evX T b).map λv=>(True,v,L)
   |_=>none
 |.alloc z=>some (True,.ptr L.length 0,L++[.cells z])
 | .box x=>match (evX T x).bind AV.cells? with
   |some l=>some (True,.ptr L.length 0,L++[.cells l])
   |none=>none
 |.build z ps=>(lP T z ps).map λl=>(True,.agg l,L)
 | .bslice own sz n z ps=>match lP T z ps with
   |some l=>if own then some (True,.lsl L.length 0 n (some n) sz,L++[.cells l])else some (True,.sl l n (some n),L)
   |none=>none
 | .load g sz x=>match (evD T x).bind (row L) with
   |some (l,off)=>if g then some (off+sz<=l.length,.agg ((l.drop off).take sz),L)else some (off<l.length,l.getD off .undef,L)
   |none=>none
 | .store sz a x=>match evX T a,(evX T x).bind AV.cells? with
   | some (.ptr i off),some vals=>match L[i]? with
     |some (.cells l)=>if vals.length=sz/\vals.all AV.one=true then some (off+sz<=l.length,.undef,L.set i (.cells (d7 l off vals)))else none
     |some (.bytes l)=>if vals.length=sz/\vals.all AV.one=true then some (off+sz<=l.length,.undef,L.set i (.bytes (d7 l off vals)))else none
     |_=>none
   |_,_=>none
 | .nilchk x=>match evD T x with
   |some (.ptr i off)=>some (True,.ptr i off,L)
   |some (.iptr l off)=>some (True,.iptr l off,L)
   |some (.iface t v)=>some (True,.iface t v,L)
   |some (.func f c)=>some (True,.func f c,L)
   |_=>none
 | .bin op x y=>match evX T x,evX T y with
   |some a,some b=>(bin op a b).map λ(c,v)=>(c,v,L)
   |_,_=>none
 | .eq2 neg x y=>match evX T x,evX T y with
   |some (.agg [.str a,.str b]),some (.agg [.str c,.str d])=>some (True,.bool (if neg then !decide (a=c/\b=d)else decide (a=c/\b=d)),L)
   |_,_=>none
 | .eqk neg k x y=>match evX T x,evX T y with
   |some a,some b=>(eqA k a b).map λr=>(True,.bool (if neg then !r else r),L)
   |_,_=>none
 | .slnil neg x=>match evX T x with
   |some (.sl _ n _)=>some (True,if n=0 then .anyb else .bool neg,L)
   |some (.gsl _ n _ _)=>some (True,if n=0 then .anyb else .bool neg,L)
   |some (.lsl _ _ n _ _)=>some (True,if n=0 then .anyb else .bool neg,L)
   |_=>none
 | .un op x=>match evX T x with
   |some a=>(un op a).map λv=>(True,v,L)
   |none=>none
 | .conv k x=>match evX T x with
   |some (.int _ n)=>some (True,.int k (k.wrap n),L)
   |_=>none
 | .sconv x=>match evX T x with
   |some (.str s)=>some (True,.str s,L)
   |_=>none
 | .b2s x=>match evX T x with
   |some (.str _)|none=>none
   | some v=>match elems L 1 v with
     |some (c,l,_)=>some (c/\l.all aft=true,.str (l.map ach),L)
     |none=>none
 | .s2b x=>match evX T x with
   |some (.str s)=>some (True,.sl (u8s s) s.length none,L)
   |_=>none
 | .s2bO x=>match evX T x with
   |some (.str s)=>some (True,.lsl L.length 0 s.length none 1,L++[.bytes (u8s s)])
   |_=>none
 | .s2bG x=>match evX T x with
   |some (.str s)=>some (True,.gsl (u8s s) s.length L.length 1,L++[.spare s.length 1])
   |_=>none
 | .rangeS x=>match evX T x with
   |some (.str s)=>some (True,.ptr L.length 0,L++[.siter s 0])
   |_=>none
 | .nextS x=>match evX T x with
   | some (.ptr i 0)=>match L[i]? with
     |some (.siter s p)=>if p<s.length then some (True,.tup [.bool true,.int .i64 (p:Int),.int .i32 ((Yr s p).1:Int)],L.set i (.siter s (p+(Yr s p).2)))else some (True,.tup [.bool false],L)
     |_=>none
   |_=>none
 |.mkif t x=>(evX T x).map λv=>(True,.iface t v,L)
 |.mkfn f caps=>(je T caps).map λl=>(True,.func f l,L)
 | .mkslice sz bytes z l c=>match evX T l,evX T c with
   | some (.int _ n),some (.int _ m) =>
     some (0<=n/\n<=m/\bytes*m<=2^48/\m<2^62,.lsl L.length 0 n.toNat (some m.toNat) sz,L++[.cells (gq z m.toNat)])
   |_,_=>none
 | .slS x lo hi=>match evX T x,bnd T lo,bnd T hi with
   | some (.str s),some lo,some hi =>
     some (0<=lo.getD 0/\lo.getD 0<=hi.getD s.length/\hi.getD s.length<=s.length,.str ((s.drop (lo.getD 0).toNat).take ((hi.getD s.length).toNat-(lo.getD 0).toNat)),L)
   |_,_,_=>none
 | .slV sz x lo hi mx=>match evX T x,bnd T lo,bnd T hi,bnd T mx with
   |some .nilsl,some lo,some hi,some none=>some (lo.getD 0=0/\hi.getD 0=0,.nilsl,L)
   | some (.sl l n cap),some lo,some hi,some none =>
     some (0<=lo.getD 0/\lo.getD 0<=hi.getD n/\hi.getD n<=n,
      .sl ((l.drop ((lo.getD 0).toNat*sz)).take (((hi.getD n).toNat-(lo.getD 0).toNat)*sz)) ((hi.getD n).toNat-(lo.getD 0).toNat) (cap.map (· - (lo.getD 0).toNat)),L)
   | some (.gsl l n _ _),some lo,some (some hi),some (some m) =>
     some (0<=lo.getD 0/\lo.getD 0<=hi/\hi<=n/\hi<=m/\m<=n,
      .sl ((l.drop ((lo.getD 0).toNat*sz)).take ((hi.toNat-(lo.getD 0).toNat)*sz)) (hi.toNat-(lo.getD 0).toNat) (some (m.toNat-(lo.getD 0).toNat)),L)
   | some (.sl l n _),some lo,some (some hi),some (some m) =>
     some (0<=lo.getD 0/\lo.getD 0<=hi/\hi<=n/\hi<=m/\m<=n,
      .sl ((l.drop ((lo.getD 0).toNat*sz)).take ((hi.toNat-(lo.getD 0).toNat)*sz)) (hi.toNat-(lo.getD 0).toNat) (some (m.toNat-(lo.getD 0).toNat)),L)
   |some (.gsl l n _ s),some lo,some hi,some none=>some (s=sz/\0<=lo.getD 0/\lo.getD 0<=hi.getD n/\hi.getD n<=n,
    .sl ((l.drop ((lo.getD 0).toNat*sz)).take (((hi.getD n).toNat-(lo.getD 0).toNat)*sz)) ((hi.getD n).toNat-(lo.getD 0).toNat) none,L)
   | some (.lsl i off n cap s),some lo,some hi,some none =>
     if s=sz then some (0<=lo.getD 0/\lo.getD 0<=hi.getD n/\hi.getD n<=((cap.getD n:Nat):Int),.lsl i (off+(lo.getD 0).toNat*sz) ((hi.getD n).toNat-(lo.getD 0).toNat) (cap.map (· - (lo.getD 0).toNat)) s,L)else none
   | some (.lsl i off n cap s),some lo,some (some hi),some (some m) =>
     if s=sz then some (0<=lo.getD 0/\lo.getD 0<=hi/\hi<=m/\m<=((cap.getD n:Nat):Int),.lsl i (off+(lo.getD 0).toNat*sz) (hi.toNat-(lo.getD 0).toNat) (some (m.toNat-(lo.getD 0).toNat)) s,L)else none
   |_,_,_,_=>none
 | .slA n sz x lo hi=>match evD T x,bnd T lo,bnd T hi with
   | some (.iptr l off),some lo,some hi =>
     some (0<=lo.getD 0/\lo.getD 0<=hi.getD n/\hi.getD n<=n/\off+n*sz<=l.length,
      .sl ((l.drop (off+(lo.getD 0).toNat*sz)).take (((hi.getD n).toNat-(lo.getD 0).toNat)*sz)) ((hi.getD n).toNat-(lo.getD 0).toNat) (some (n-(lo.getD 0).toNat)),L)
   | some (.ptr i off),some lo,some hi=>match L[i]? with
     | some (.cells l)=>some (0<=lo.getD 0/\lo.getD 0<=hi.getD n/\hi.getD n<=n/\off+n * sz<=l.length,
       .lsl i (off+(lo.getD 0).toNat*sz) ((hi.getD n).toNat-(lo.getD 0).toNat) (some (n-(lo.getD 0).toNat)) sz,L)
     |_=>none
   |_,_,_=>none
 | .faddr o x=>match evD T x with
   |some (.ptr i off)=>some (True,.ptr i (off+o),L)
   |some (.iptr l off)=>some (True,.iptr l (off+o),L)
   |_=>none
 | .field g o sz x=>match evX T x with
   |some (.agg l)=>if g then some (o+sz<=l.length,.agg ((l.drop o).take sz),L)else some (o<l.length,l.getD o .undef,L)
   |_=>none
 | .iaddr sz x i=>match evX T x,evX T i with
   |some (.sl l n _),some (.int _ k)=>some (0<=k/\k<n,.iptr l (k.toNat*sz),L)
   |some (.gsl l n _ _),some (.int _ k)=>some (0<=k/\k<n,.iptr l (k.toNat*sz),L)
   |some (.lsl j off n _ _),some (.int _ k)=>some (0<=k/\k<n,.ptr j (off+k.toNat*sz),L)
   |_,_=>none
 | .iaddrA n sz x i=>match evD T x,evX T i with
   |some (.iptr l off),some (.int _ k)=>some (0<=k/\k<n,.iptr l (off+k.toNat*sz),L)
   |some (.ptr j off),some (.int _ k)=>some (0<=k/\k<n,.ptr j (off+k.toNat*sz),L)
   |_,_=>none
 | .idxS x i=>match evX T x,evX T i with
   |some (.str s),some (.int _ k)=>some (0<=k/\k<s.length,.int .u8 (s.getD k.toNat 0).toNat,L)
   |_,_=>none
 | .extract x i=>match evX T x with
   |some (.tup l)=>(l[i]?).map λv=>(True,v,L)
   |_=>none
 | .len true x=>match evX T x with
   |some (.str s)=>some (True,.int .i64 s.length,L)
   |_=>none
 | .len false x=>match evX T x with
   |some .nilsl=>some (True,.int .i64 0,L)
   |some (.sl _ n _)=>some (True,.int .i64 n,L)
   |some (.gsl _ n _ _)=>some (True,.int .i64 n,L)
   |some (.lsl _ _ n _ _)=>some (True,.int .i64 n,L)
   |_=>none
 | .cap x=>match evX T x with
   |some .nilsl=>some (True,.int .i64 0,L)
   |some (.sl _ _ (some c))=>some (True,.int .i64 c,L)
   |some (.lsl _ _ _ (some c) _)=>some (True,.int .i64 c,L)
   |_=>none
 | .appz sz bytes z a n=>match evX T a,evX T n with
   | some (.lsl i off m (some cp) s),some (.int _ k)=>match L[i]? with
     |some (.cells l)=>if s=sz then some (0<=k/\k<=1099511627776/\cp<m+k.toNat/\off+m*sz<=l.length/\(m+k.toNat)*bytes<=140737488355328/\m+k.toNat<=140737488355328,
      .lsl L.length 0 (m+k.toNat) none sz,L++[.cells ((l.drop off).take (m*sz)++gq z k.toNat)])else none
     |_=>none
   |_,_=>none
 | .app own sz bytes _ a b=>match evX T a,evX T b with
   |some a,some b=>app own sz bytes L a b
   |_,_=>none
 | .copy sz a b=>match evX T a,(evX T b).bind (elems L sz) with
   |some .nilsl,some (c,_,_)=>some (c,.int .i64 0,L)
   | some (.lsl i off m _ s),some (c,new,n)=>match L[i]? with
     |some (.cells l)=>if s=sz then some (c/\off+m*sz<=l.length/\(new.take (min n m*sz)).all AV.one=true,.int .i64 (min n m:Nat),L.set i (.cells (d7 l off (new.take (min n m*sz)))))else none
     |_=>none
   |_,_=>none
 | .clear sz z x=>match evX T x with
   |some .nilsl=>some (True,.tup [],L)
   | some (.lsl i off m _ s)=>match L[i]? with
     |some (.cells l)=>if s=sz then some (off+m*sz<=l.length,.tup [],L.set i (.cells (d7 l off (gq z m))))else none
     |_=>none
   |_=>none
 | .minmax mx [x,y]=>match evX T x,evX T y with
   |some (.int k a),some (.int _ b)=>some (True,.int k (if mx then(if b>a then b else a)else(if b<a then b else a)),L)
   |_,_=>none
 |.mkmap=>some (True,.lmap L.length,L++[.map [] 0])
 | .mget kd ok z m k=>match evX T m,evX T k with
   |some .nilmap,some k=>if bT kd k=true then some (True,if ok then .tup [z,.bool false]else z,L)else none
   | some (.lmap i),some k=>match L[i]? with
     | some (.map es _)=>if bT kd k=true then (match dH k es 0 with
       |some (some (_,v))=>some (True,if ok then .tup [v,.bool true]else v,L)
       |some none=>some (True,if ok then .tup [z,.bool false]else z,L)
       |none=>none)else none
     |_=>none
   |_,_=>none
 | .mset kd m k v=>match evX T m,evX T k,evX T v with
   | some (.lmap i),some k,some v=>match L[i]? with
     | some (.map es ck)=>if bT kd k=true then (match dH k es 0 with
       |some (some (j,_))=>some (True,.undef,L.set i (.map (ajx k v es j) ck))
       |some none=>some (True,.undef,L.set i (.map (es++[(k,v,ck)]) (ck+1)))
       |none=>none)else none
     |_=>none
   |_,_,_=>none
 | .mdel kd m k=>match evX T m,evX T k with
   |some .nilmap,some k=>if bT kd k=true then some (True,.tup [],L)else none
   | some (.lmap i),some k=>match L[i]? with
     | some (.map es ck)=>if bT kd k=true then (match dH k es 0 with
       |some (some (j,_))=>some (True,.tup [],L.set i (.map (es.eraseIdx j) ck))
       |some none=>some (True,.tup [],L.set i (.map es ck))
       |none=>none)else none
     |_=>none
   |_,_=>none
 | .mrange x=>match evX T x with
   |some .nilmap=>some (True,.ptr L.length 0,L++[.miter none 0 [] 0])
   | some (.lmap i)=>match L[i]? with
     |some (.map es ck)=>some (True,.ptr L.length 0,L++[.miter (some i) ck [] ck])
     |_=>none
   |_=>none
 | .mnext x=>match evX T x with
   | some (.ptr i 0)=>match L[i]? with
     |some (.miter none _ _ _)=>some (True,.tup [.bool false],L)
     | some (.miter (some j) since seen last)=>match L[j]? with
       | some (.map es ck)=>match ajw es since seen last with
         |some r=>some (True,V0 r,abD L i j since seen ck r)
         |none=>none
       |_=>none
     |_=>none
   |_=>none
 | .mentry x=>match evX T x with
   | some (.ptr i 0)=>match L[i]? with
     | some (.miter (some j) since seen st)=>match L[j]? with
       | some (.map es ck)=>match mat es ck seen st with
         |some e=>some (True,.tup [e.1,e.2.1],L)
         |none=>none
       |_=>none
     |_=>none
   |_=>none
 | .mlen m=>match evX T m with
   |some .nilmap=>some (True,.int .i64 0,L)
   | some (.lmap i)=>match L[i]? with
     |some (.map es _)=>some (True,.int .i64 es.length,L)
     |_=>none
   |_=>none
 |_=>none
end Go.Proofs.YtdnfjhflkkpokaaGreatDoor.Av
