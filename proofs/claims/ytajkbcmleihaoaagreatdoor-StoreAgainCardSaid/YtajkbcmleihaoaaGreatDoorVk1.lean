/- Joined texts of the walk, made small by a program. -/
import Derived.Calls
import Derived.Orders
import Derived.OrdersIn
import Derived.OwnWalkIn
import Derived.RangeFuncRecord
import Derived.KernelRfl
import GoSem.PinnedTables
import Derived.WalkKit
set_option linter.unusedSimpArgs false
set_option linter.unusedVariables false
namespace Go.Proofs.YtajkbcmleihaoaaGreatDoor.Av
open Go
variable {p:Prop}{b i n sz off:Nat}{a:Act}{v:Value}{w w' w0:World}{P:Program}
theorem ah3(h:p:=by omega):p:=h
theorem ah4(h:p:=by simp):p:=h
theorem ah5(h:p:=by kernel_rfl):p:=h
theorem aeS{α : Sort _}(a : α): ∃x, a = x := ⟨_, rfl⟩
theorem aeT{α : Type _}{l m : List α}{i : Nat}{b : α}(h : l[i]? = some b): (l ++ m)[i]? = some b := by rw[List.getElem?_append_left (List.getElem?_eq_some_iff.1 h).1];exact h
abbrev aeY:=@List.getElem?_eq_some_iff
abbrev aeZ:=@Option.some.injEq
abbrev ae0:=@Nat.le_refl
abbrev ae1:=@List.mem_map
abbrev ae2:=@List.mem_append
abbrev ae3:=@List.getElem?_append_left
abbrev ae4:=@List.getElem?_set_ne
abbrev ae5:=@Nat.zero_le
abbrev ae6:=@List.length_map
abbrev ae7:=@Bool.and_eq_true
abbrev ae8:=@Sem.run_bind
abbrev ae9:=@Result.andThen_ok
abbrev afa:=@List.append_assoc
abbrev afb:=@Prod.mk.injEq
abbrev afc:=@List.length_append
abbrev afd:=@List.all_eq_true
abbrev afe:=@List.map_cons
abbrev aff:=@List.getElem?_append_right
abbrev afg:=@List.length_cons
abbrev afh:=@List.getD_eq_getElem?_getD
abbrev afi:=@Option.map_some
abbrev afj:=@List.map_map
abbrev afk:=@List.map_append
abbrev afl:=@List.mem_singleton
abbrev afm:=@Bool.false_eq_true
abbrev afn:=@List.getElem?_eq_getElem
abbrev afo:=@List.take_length
abbrev afp:=@List.mem_cons
abbrev afq:=@List.append_nil
abbrev afr:=@Option.map_eq_some_iff
abbrev afs:=@List.take_succ_eq_append_getElem
abbrev aft:=@Nat.lt_or_ge
abbrev afu:=@List.take_of_length_le
abbrev afv:=@Sem.run_pure
abbrev afw:=@Nat.le_trans
abbrev afx:=@Option.map_none
abbrev afy:=@List.getElem?_set_self
abbrev afz:=@List.getElem?_take_of_lt
abbrev afA:=@Bool.not_eq_true'
abbrev afB:=@List.mem_filter
abbrev afC:=@List.getElem?_set
abbrev afD:=@Nat.zero_mul
abbrev afE:=@List.getElem?_drop
abbrev afF:=@List.length_nil
abbrev afG:=@List.set_append_right
abbrev afH:=@List.nil_append
abbrev afI:=@List.cons_append
abbrev afJ:=@Array.getElem?_eq_some_iff
abbrev afK:=@List.length_eq_zero_iff
abbrev afL:=@List.drop_eq_getElem_cons
abbrev afM:=@Bool.or_eq_true
abbrev afN:=@List.map_congr_left
abbrev afO:=@List.foldl_cons
abbrev afP:=@List.length_pos_iff
abbrev afQ:=@List.map_nil
abbrev afR:=@Array.getElem?_eq_getElem
abbrev afS:=@List.getElem?_map
abbrev afT:=@List.flatMap_cons
abbrev afU:=@Bool.true_and
abbrev afV:=@List.getElem?_eq_none
abbrev afW:=@List.getElem?_cons_zero
abbrev afX:=@List.contains_eq_mem
abbrev afY:=@List.nodup_cons
abbrev afZ:=@List.length_take
abbrev af0:=@List.mem_of_getElem?
abbrev af1:=@List.ext_getElem?
abbrev af2:=@List.all_cons
abbrev af3:=@Nat.add_assoc
abbrev af4:=@Nat.add_mul
abbrev af5:=@List.find?_cons
abbrev af6:=@List.not_mem_nil
abbrev af7:=@List.find?_eq_none
abbrev af8:=@Nat.lt_of_lt_of_le
abbrev af9:=@List.mem_append_left
abbrev aga:=@List.mergeSort_perm
abbrev agb:=@List.length_drop
abbrev agc:=@List.length_reverse
abbrev agd:=@Array.getElem?_push_lt
abbrev age:=@List.getElem_mem
abbrev agf:=@Nat.eq_zero_or_pos
abbrev agh:=@List.getElem?_append
abbrev agi:=@Nat.mul_le_mul_right
abbrev agj:=@Option.getD_some
abbrev agk:=@Nat.add_zero
abbrev agl:=@Array.getD_eq_getD_getElem?
abbrev agm:=@Nat.zero_add
abbrev agn:=@List.filterMap_append
abbrev ago:=@List.take_append_drop
abbrev agp:=@List.any_eq_true
abbrev agq:=@List.nodup_append
abbrev agr:=@List.mem_of_find?_eq_some
abbrev ags:=@List.find?_some
abbrev agt:=@List.findIdx?_cons
abbrev agu:=@List.drop_of_length_le
abbrev agv:=@List.mem_of_mem_drop
abbrev agw:=@Option.bind_some
abbrev agx:=@List.mem_append_right
abbrev agy:=@List.drop_length
abbrev agz:=@Function.comp_apply
abbrev agA:=@List.length_tail
abbrev agB:=@List.mem_cons_of_mem
abbrev agC:=@Bool.true_eq_false
abbrev agD:=@List.mem_iff_getElem?
abbrev agE:=@List.drop_drop
abbrev agF:=@List.take_zero
abbrev agG:=@Nat.sub_self
abbrev agH:=@Bool.false_and
abbrev agI:=@List.any_eq_false
abbrev agJ:=@List.tail_suffix
abbrev agK:=@Array.getElem?_modify
abbrev agL:=@Bool.and_true
abbrev agM:=@Option.bind_eq_some_iff
abbrev agN:=@List.length_replicate
abbrev agO:=@List.all_nil
abbrev agP:=@List.set_append_left
abbrev agQ:=@List.eq_nil_or_concat
abbrev agR:=@List.filter_map
abbrev agS:=@Int.le_refl
abbrev agT:=@Nat.min_eq_left
abbrev agU:=@Nat.le_succ
abbrev agV:=@Array.getElem?_setIfInBounds
abbrev agW:=@List.getElem?_toArray
abbrev agX:=@List.nodup_nil
abbrev agY:=@List.mem_zipIdx_iff_getElem?
abbrev agZ:=@List.mem_iff_getElem
abbrev ag0:=@Bool.false_or
abbrev ag1:=@List.take_succ_cons
abbrev ag2:=@Nat.sub_zero
abbrev ag3:=@Bool.or_eq_false_iff
abbrev ag4:=@UInt8.toNat_inj
abbrev ag5:=@List.pairwise_mergeSort
abbrev ag6:=@Decidable.not_not
abbrev ag7:=@List.foldl_nil
abbrev ag8:=@List.sum_cons
abbrev ag9:=@List.drop_one
abbrev aha:=@List.map_take
abbrev ahb:=@List.length_filter_le
abbrev ahc:=@List.set_set
abbrev ahd:=@List.mem_of_mem_take
abbrev ahe:=@List.getElem?_cons_succ
abbrev ahf:=@Bool.not_true
abbrev ahg:=@List.singleton_append
abbrev ahh:=@World.putObj_heap_other
abbrev ahi:=@List.drop_zero
abbrev ahj:=@List.drop_succ_cons
abbrev ahk:=@List.drop_eq_nil_of_le
abbrev ahl:=@List.concat_eq_append
abbrev ahm:=@List.map_drop
abbrev ahn:=@List.eraseIdx_cons_succ
abbrev aho:=@List.findIdx?_eq_some_iff_getElem
abbrev ahp:=@List.Perm.of_eq
abbrev ahq:=@List.mapM_cons
abbrev ahr:=@ByteArray.toList_mk
abbrev ahs:=@Bool.not_false
abbrev aht:=@List.count_replicate
abbrev ahu:=@Option.mem_toList
abbrev ahv:=@List.mem_cons_self
abbrev ahw:=@Array.getElem?_append_left
abbrev ahx:=@Bool.decide_and
abbrev ahy:=@Bool.decide_or
abbrev ahz:=@Bool.and_false
abbrev ahA:=@List.foldl_append
abbrev ahB:=@List.suffix_nil
abbrev ahC:=@List.filter_congr
abbrev ahD:=@Bool.eq_iff_iff
abbrev ahE:=@List.flatten_cons
abbrev ahF:=@List.flatten_nil
abbrev ahG:=@List.cons.injEq
abbrev ahH:=@Bool.and_assoc
abbrev ahI:=@Array.getElem?_toList
abbrev ahJ:=@Nat.eq_of_beq_eq_true
abbrev ahK:=@List.countP_eq_zero
abbrev ahL:=@List.contains_iff_mem
abbrev ahM:=@List.pairwise_append
abbrev ahN:=@List.Perm.eq_of_pairwise
abbrev ahO:=@Nat.div_div_eq_div_mul
abbrev ahP:=@Int.fdiv_eq_ediv_of_nonneg
abbrev ahQ:=@List.filter_eq_self
abbrev ahR:=@List.mem_map_of_mem
abbrev ahS:=@List.length_mergeSort
abbrev ahT:=@List.eraseIdx_sublist
abbrev ahU:=@List.findIdx?_eq_none_iff
abbrev ahV:=@List.eq_of_mem_replicate
inductive AV where
 |undef
 |bool (b:Bool)
 |anyb
 |int (k:IntKind) (n:Int)
 |str (l:List UInt8)
 |nilptr
 |gptr (g off:Nat)
 |ptr (i off:Nat)
 |iptr (l:List AV) (off:Nat)
 |nilsl
 |sl (l:List AV) (n:Nat) (cap:Option Nat)
 |lsl (i off len:Nat) (cap:Option Nat) (sz:Nat)
 |gsl (l:List AV) (n i sz:Nat)
 |nilmap
 |lmap (i:Nat)
 |yld (i:Nat)
 |func (f:FuncId) (caps:List AV)
 |nilfunc
 |nilif
 |iface (t:TypeId) (v:AV)
 |agg (l:List AV)
 |tup (l:List AV)
 deriving Inhabited
variable {l vals:List AV}
structure Loc where
 blk:Nat
 off:Nat
 size:Nat
variable {c:Loc}
structure Tok where
 pos:Nat
 sz:Nat
 loc:Option Loc
structure SB where
 S:Nat->Prop
 B:Nat
variable {S0:SB}
instance:CoeFun SB (fun _=>Nat->Prop):=⟨SB.S⟩
structure Env where
 mem:Nat->Nat->Option Value
 loc:Nat->Option Loc
 tok:Nat->Option Tok
variable {E E':Env}
mutual
def VR(E:Env):AV->Value->Prop
 |.undef,_=>True
 |.bool b,v=>v=.bool b
 |.anyb,v=>∃b,v=.bool b
 |.int k n,v=>v=.int k n
 |.str l,v=>v=.string ⟨⟨l⟩⟩
 |.nilptr,v=>v=.pointer none
 |.gptr g off,v=>v=.pointer (some ⟨g,off,none⟩)
 |.ptr i off,v=>∃c,E.loc i=some c/\v=.pointer (some ⟨c.blk,c.off+off,none⟩)
 |.iptr l off,v=>∃b o,v=.pointer (some ⟨b,o+off,none⟩)/\VRC E l b o
 |.nilsl,v=>v=.slice none 0 0
 |.sl l n cap,v=>∃p c,v=.slice p n c/\n<=c/\(∀k,cap=some k->c=k)/\((n=0/\c=0/\l=[])\/∃b o,p=some ⟨b,o,none⟩/\VRC E l b o)
 |.lsl i off len cap sz,v=>∃c rc d,E.loc i=some c/\v=.slice (some ⟨c.blk,d,none⟩) len rc/\(rc≠0->d=c.off+off)/\len<=rc /\
  (∀k,cap=some k->rc=k)/\c.off+off+rc*sz<=c.size
 |.gsl l n i sz,v=>∃p c,v=.slice p n c/\n<=c/\l.length=n*sz/\((n=0/\c=0/\l=[])\/∃b o,p=some ⟨b,o,none⟩/\VRC E l b o) /\
  ∃t,E.tok i=some t/\n<=t.pos/\(n=t.pos->t.sz=sz/\(t.loc=none->c=n)/\∀k,t.loc=some k->p=some ⟨k.blk,0,none⟩/\c*sz<=k.size)
 |.nilmap,v=>v=.map none
 |.lmap i,v=>∃c,E.loc i=some c/\v=.map (some c.blk)
 |.yld i,v=>∃c,E.loc i=some c/\v=.func (.yield c.blk) #[] #[]
 |.func f caps,v=>∃vs,v=.func (.func f) #[] ⟨vs⟩/\VRL E caps vs
 |.nilfunc,v=>v=.nilFunc
 |.nilif,v=>v=.nilIface
 |.iface t a,v=>∃x,v=.iface t x/\VR E a x
 |.agg l,v=>∃vs,v=.agg ⟨vs⟩/\VRL E l vs
 |.tup l,v=>∃vs,v=.tuple ⟨vs⟩/\VRL E l vs
def VRL(E:Env):List AV->List Value->Prop
 |[],vs=>vs=[]
 |a::l,vs=>∃x xs,vs=x::xs/\VR E a x/\VRL E l xs
def VRC(E:Env):List AV->Nat->Nat->Prop
 |[],_,_=>True
 |a::l,b,o=>(∃x,E.mem b o=some x/\VR E a x)/\VRC E l b (o+1)
end
structure Env.le(E E':Env):Prop where
 mem:∀b o v,E.mem b o=some v->E'.mem b o=some v
 loc:∀i c,E.loc i=some c->E'.loc i=some c
 tok:∀i t,E.tok i=some t->∃t',E'.tok i=some t'/\(t'=t\/t.pos<t'.pos)
theorem Env.le.refl(E:Env):E.le E:=⟨λ_ _ _ h=>h,λ_ _ h=>h,λ_ t h=>⟨t,h,.inl rfl⟩⟩
theorem Env.le.trans{A B C:Env}(h:A.le B)(k:B.le C):A.le C:=⟨λb o v x=>k.mem b o v (h.mem b o v x),λi c x=>k.loc i c (h.loc i c x),λi t x=>by obtain⟨d,e,a⟩:=h.tok i t x;obtain⟨f,g,h4⟩:=k.tok i d e;refine⟨f,g,?_⟩;rcases a with rfl|a<;>rcases h4 with rfl|h4;exact .inl rfl;exact .inr h4;exact .inr a;exact .inr (Nat.lt_trans a h4)⟩
mutual
theorem VR.mono{E E':Env}(h:E.le E'):∀(a:AV) (v:Value),VR E a v->VR E' a v
 |.undef,_,_=>by simp[VR]
 |.bool _,_,r=>by simpa[VR]using r
 |.anyb,_,r=>by simpa[VR]using r
 |.int _ _,_,r=>by simpa[VR]using r
 |.str _,_,r=>by simpa[VR]using r
 |.nilptr,_,r=>by simpa[VR]using r
 |.gptr _ _,_,r=>by simpa[VR]using r
 |.ptr i off,v,r=>by simp only[VR]at r⊢;obtain⟨c,j,g⟩:=r;exact⟨c,h.loc _ _ j,g⟩
 |.iptr l off,v,r=>by simp only[VR]at r⊢;obtain⟨b,o,j,g⟩:=r;exact⟨b,o,j,VRC.mono h l b o g⟩
 |.nilsl,_,r=>by simpa[VR]using r
 |.sl l n cap,v,r=>by simp only[VR]at r⊢;obtain⟨p,c,j,g,q,h4⟩:=r;exact⟨p,c,j,g,q,h4.imp id λ⟨b,o,k,m⟩=>⟨b,o,k,VRC.mono h l b o m⟩⟩
 | .gsl l n i sz,v,r=>by
   simp only[VR]at r⊢;obtain⟨p,c,j,g,q,h4,t,k,m,y⟩:=r;obtain⟨t',u,s⟩:=h.tok _ _ k;refine⟨p,c,j,g,q,h4.imp id λ⟨b,o,k,m⟩=>⟨b,o,k,VRC.mono h l b o m⟩,t',u,?_⟩;rcases s with rfl|s
   .exact⟨m,y⟩
   .exact⟨ah3,λe=>ah3⟩
 |.lsl i off len cap sz,v,r=>by simp only[VR]at r⊢;obtain⟨c,w,d,j,g⟩:=r;exact⟨c,w,d,h.loc _ _ j,g⟩
 |.nilmap,_,r=>by simpa[VR]using r
 |.lmap i,v,r=>by simp only[VR]at r⊢;obtain⟨c,j,g⟩:=r;exact⟨c,h.loc _ _ j,g⟩
 |.yld i,v,r=>by simp only[VR]at r⊢;obtain⟨c,j,g⟩:=r;exact⟨c,h.loc _ _ j,g⟩
 |.func f caps,v,r=>by simp only[VR]at r⊢;obtain⟨vs,j,g⟩:=r;exact⟨vs,j,VRL.mono h caps vs g⟩
 |.nilfunc,_,r=>by simpa[VR]using r
 |.nilif,_,r=>by simpa[VR]using r
 |.iface t a,v,r=>by simp only[VR]at r⊢;obtain⟨x,j,g⟩:=r;exact⟨x,j,VR.mono h a x g⟩
 |.agg l,v,r=>by simp only[VR]at r⊢;obtain⟨vs,j,g⟩:=r;exact⟨vs,j,VRL.mono h l vs g⟩
 |.tup l,v,r=>by simp only[VR]at r⊢;obtain⟨vs,j,g⟩:=r;exact⟨vs,j,VRL.mono h l vs g⟩
theorem VRL.mono{E E':Env}(h:E.le E'):∀(l:List AV) (vs:List Value),VRL E l vs->VRL E' l vs
 |[],_,r=>by simpa[VRL]using r
 |a::l,vs,r=>by simp only[VRL]at r⊢;obtain⟨x,xs,d,b,c⟩:=r;exact⟨x,xs,d,VR.mono h a x b,VRL.mono h l xs c⟩
theorem VRC.mono{E E':Env}(h:E.le E'):∀(l:List AV) (b o:Nat),VRC E l b o->VRC E' l b o
 |[],_,_,_=>by simp[VRC]
 |a::l,b,o,r=>by simp only[VRC]at r⊢;obtain⟨⟨x,e,c⟩,d⟩:=r;exact⟨⟨x,h.mem _ _ _ e,VR.mono h a x c⟩,VRC.mono h l b (o+1) d⟩
end
theorem VRL.length{E:Env}:∀{l:List AV}{vs:List Value},VRL E l vs->vs.length=l.length
 |[],_,r=>by simp only[VRL]at r;subst r;rfl
 |a::l,vs,r=>by obtain⟨x,xs,rfl,_,b⟩:=r;simp[VRL.length b]
theorem VRL.get{E:Env}:∀{l:List AV}{vs:List Value}{i:Nat}{a:AV},VRL E l vs->l[i]?=some a->∃v,vs[i]?=some v/\VR E a v
 |[],_,_,_,_,h=>by simp at h
 | a::l,vs,i,x,r,h=>by
   obtain⟨y,d,rfl,b,c⟩:=r;cases i with
   |zero=>simp at h;subst h;exact⟨y,ah4,b⟩
   |succ i=>simp at h;simpa using VRL.get c h
theorem VRL.of_get{E:Env}:∀{l:List AV}{vs:List Value},vs.length=l.length->(∀(i:Nat) (a:AV),l[i]?=some a->∃v,vs[i]?=some v/\VR E a v)->VRL E l vs
 |[],vs,hl,_=>by have:vs=[]:=(by cases vs<;>simp_all);simp[VRL,this]
 | a::l,vs,hl,h=>by
   cases vs with
   |nil=>simp at hl
   | cons x xs =>
     refine⟨x,xs,rfl,?_,VRL.of_get (by simpa using hl) λi b c=>by simpa using h (i+1) b (by simpa using c)⟩;obtain⟨v,e,d⟩:=h 0 a ah4;simp_all
theorem VRC.get{E:Env}:∀{l:List AV}{b o i:Nat}{a:AV},VRC E l b o->l[i]?=some a->∃v,E.mem b (o+i)=some v/\VR E a v
 |[],_,_,_,_,_,h=>by simp at h
 | a::l,b,o,i,x,r,h=>by
   obtain⟨⟨y,e,c⟩,d⟩:=r;cases i with
   |zero=>simp at h;subst h;exact⟨y,by simpa using e,c⟩
   | succ i =>
     obtain⟨v,h4,f⟩:=VRC.get d h
     grind
theorem VRC.of_get{E:Env}:∀{l:List AV}{b o:Nat},(∀(i:Nat) (a:AV),l[i]?=some a->∃v,E.mem b (o+i)=some v/\VR E a v)->VRC E l b o
 |[],_,_,_=>by simp[VRC]
 | a::l,b,o,h=>by
   refine⟨by simpa using h 0 a ah4,VRC.of_get λi x c=>?_⟩;have:=h (i+1) x (by simpa using c)
   grind
theorem VRC.drop{o:Nat}(n:Nat)(h:VRC E l b o):VRC E (l.drop n) b (o+n):=
 VRC.of_get λi a c=>by
  rw[afE]at c;have:=h.get c
  grind
theorem VRC.take{o:Nat}(n:Nat)(h:VRC E l b o):VRC E (l.take n) b o :=
 VRC.of_get λi a c=>by rw[List.getElem?_take]at c;split at c;exact h.get c;simp_all
theorem VRL.append{E:Env}:∀{l m:List AV}{vs ws:List Value},VRL E l vs->VRL E m ws->VRL E (l++m) (vs++ws)
 |[],_,_,_,h,k=>by simp only[VRL]at h;subst h;simpa using k
 |a::l,m,vs,ws,h,k=>by obtain⟨x,xs,rfl,b,c⟩:=h;exact⟨x,xs++ws,rfl,b,VRL.append c k⟩
def AV.one:AV->Bool
 |.undef|.agg _|.tup _=>false
 |_=>true
def AV.cells:AV->List AV
 |.agg l=>l
 |a=>[a]
def Value.one:Value->Bool
 |.agg _|.tuple _=>false
 |_=>true
theorem VR.one{a:AV}(h:VR E a v)(b:a.one=true):Value.one v=true:=by
 cases a<;>simp only[AV.one,afm]at b<;>simp only[VR]at h
 all_goals first
  |(subst h;rfl)
  |(obtain⟨_,_,h,_⟩:=h;subst h;rfl)
  |(obtain⟨_,h,_⟩:=h;subst h;rfl)
  |(obtain⟨_,_,_,h,_⟩:=h;subst h;rfl)
  |(obtain⟨_,h⟩:=h;subst h;rfl)
  |(obtain⟨_,_,h⟩:=h;subst h;rfl)
  |(obtain⟨_,_,_,_,h,_⟩:=h;subst h;rfl)
  |skip
def VB:List AV:=[.int .u8 128,.int .u8 191,.int .u8 160,.int .u8 191,.int .u8 128,.int .u8 159,.int .u8 144,.int .u8 191,.int .u8 128,.int .u8 143,.int .u8 0,.int .u8 0,.int .u8 0,.int .u8 0,.int .u8 0,.int .u8 0,.int .u8 0,.int .u8 0,.int .u8 0,.int .u8 0,.int .u8 0,.int .u8 0,.int .u8 0,.int .u8 0,.int .u8 0,.int .u8 0,.int .u8 0,.int .u8 0,.int .u8 0,.int .u8 0,.int .u8 0,.int .u8 0]
def VA:List AV:=Go.Pinned.utf8FirstZ.map λ(n:Nat)=>AV.int .u8 (Int.ofNat n)
def G9:List (Nat×List AV):=[(1,VB),(0,VA)]
def Ph:List Nat:=[2]
def zf(g:Nat):Option (List AV):=(G9.find? λp=>p.1 == g).map (·.2)
theorem Z2:zf 1=some VB:=by rfl
attribute [push_cast] Z2
theorem Z0:zf 0=some VA:=by rfl
attribute [push_cast] Z0
def s6(m:Nat->Nat->Option Value):Prop:=(∀p∈G9,VRC ⟨m,λ_=>none,λ_=>none⟩ p.2 p.1 0)/\∀g∈Ph,∃z,m g 0=some (.int .i64 z)
theorem s6.mono{m a:Nat->Nat->Option Value}(h:s6 m)(c:∀b o v,m b o=some v->a b o=some v):s6 a:=⟨λp f =>
 VRC.mono ⟨c,(λ_ _ x=>by cases x),(λ_ _ x=>by cases x)⟩ _ _ _ (h.1 p f),λg d=>by
 obtain⟨z,e⟩:=h.2 g d;exact⟨z,c _ _ _ e⟩⟩
theorem s6.env(h:s6 E.mem){p:Nat×List AV}(a:p∈G9):VRC E p.2 p.1 0 :=
 VRC.mono (E:=⟨E.mem,λ_=>none,λ_=>none⟩) (E':=E) ⟨λ_ _ _ x=>x,(λ_ _ x=>by cases x),(λ_ _ x=>by cases x)⟩ _ _ _ (h.1 p a)
def v7(w:World):Prop:=∀p∈G9,p.2≠[]->∃cs ty fr,w.heap[p.1]?=some (.cells cs ty fr)/\cs.size=p.2.length
theorem v7.push(h:v7 w)(o:Obj):v7 {w with heap:=w.heap.push o}:=λp b a=>by
 obtain⟨cs,ty,fr,d,c⟩:=h p b a
 grind
theorem v7.keep{m:Nat->Nat->Option Value}(h:v7 w)(e:s6 m)(i:∀b,(∃v,m b 0=some v)->w'.heap[b]?=w.heap[b]?):v7 w':=λp d c=>by
 obtain⟨cs,ty,fr,j,f⟩:=h p d c;have:=e.1 p d;obtain⟨g,l⟩:=p;cases l with
 |nil=>exact absurd rfl c
 | cons a l =>
   simp only[VRC]at this
   grind
theorem v7.mod(h:v7 w)(i:∀(b:Nat) (cs:Array Value) (ty:TypeId) (fr:Nat×Nat),w.heap[b]?=some (Obj.cells cs ty fr)->∃(a:Array Value) (c:TypeId) (d:Nat×Nat),w'.heap[b]?=some (Obj.cells a c d)/\a.size=cs.size):v7 w':=λp f e=>by
 obtain⟨cs,ty,fr,j,g⟩:=h p f e
 grind
theorem VO{g:Nat}(h:zf g=some l):(g,l)∈G9:=by
 simp only[zf,afr]at h
 grind
abbrev Tm:=List (Nat×AV)
variable {T:Tm}
def ar:Tm->Nat->Option AV
 |[],_=>none
 |(d,v)::T,t=>if d=t then some v else ar T t
theorem LY:∀{T:Tm}{t:Nat}{v:AV},ar T t=some v->(t,v)∈T
 |[],_,_,h=>by simp[ar]at h
 | (d,u)::T,t,v,h=>by
   simp only[ar]at h;split at h
   .simp_all
   .exact agB _ (LY h)
inductive Blk where
 |dead
 |cells (l:List AV)
 |map (es:List (AV×AV×Nat)) (ck:Nat)
 |miter (m:Option Nat) (since:Nat) (seen:List Nat) (last:Nat)
 |siter (s:List UInt8) (pos:Nat)
 |bytes (l:List AV)
 |spare (n sz:Nat)
 |lrec (T:Tm) (n:Nat) (fn:FuncId) (ps:List Nat) (ca cb:Code) (busy:Bool)
 deriving Inhabited
variable {k:Blk}{L L':List Blk}
def Blk.live:Blk->Bool
 |.dead=>false
 |.spare _ _=>false
 |_=>true
def aA(E:Env):List (AV×AV×Nat)->List MapEntry->Prop
 |[],es=>es=[]
 |(k,x,b)::l,es=>∃e r,es=e::r/\VR E k e.key/\VR E x e.val/\e.born=b/\aA E l r
def MIt(E:Env):Option Nat->Option Nat->Prop
 |none,r=>r=none
 |some j,r=>∃d,E.loc j=some d/\r=some d.blk
def bg(E:Env)(w:World)(i:Nat):Blk->Prop
 |.dead=>True
 |.cells l=>∃c cs ty fr,E.loc i=some c/\w.heap[c.blk]?=some (.cells cs ty fr)/\cs.size=c.size/\c.off+l.length<=c.size /\
  (∀j a,l[j]?=some a->∃v,cs[c.off+j]?=some v/\VR E a v)/\(∀o,c.off<=o->o<=c.size->¬(fr.1<=o/\o<fr.2))
 |.bytes l=>∃c cs ty fr,E.loc i=some c/\w.heap[c.blk]?=some (.cells cs ty fr)/\cs.size=c.size/\c.off+l.length<=c.size /\
  (∀j a,l[j]?=some a->∃v,cs[c.off+j]?=some v/\VR E a v)/\(∀o,c.off<=o->o<c.size->¬(fr.1<=o/\o<fr.2))
 |.map es ck=>∃c rs,E.loc i=some c/\w.heap[c.blk]?=some (.map rs ck)/\aA E es rs.toList
 |.miter m since seen last=>∃c r,E.loc i=some c/\w.heap[c.blk]?=some (.mapIter r since ⟨seen⟩ last)/\c.off=0/\MIt E m r
 |.siter s pos=>∃c,E.loc i=some c/\w.heap[c.blk]?=some (.stringIter ⟨⟨s⟩⟩ pos)/\c.off=0
 |.lrec T n fn ps ca cb busy=>∃c D tm,E.loc i=some c/\w.heap[c.blk]?=some (.loop {state:=if busy then .busy else .ready,pending:=none,fn:=fn,tmps:=tm,params:=⟨ps⟩,assign:=ca,body:=cb,defers:=D})/\c.off=0/\tm.size=n/\∀t v,ar T t=some v->VR E v (tm.getD t undef)
 |.spare n sz=>∃t,E.tok i=some t/\t.pos=n/\t.sz=sz/\∀k,t.loc=some k->∃cs ty fr,w.heap[k.blk]?=some (.cells cs ty fr)/\cs.size=k.size/\(∀o,n*sz<=o->o<k.size->¬(fr.1<=o/\o<fr.2))
structure Rel(w0:World)(S0:SB)(E:Env)(L:List Blk)(w:World):Prop where
 mem:∀b o v,E.mem b o=some v->w.cell? ⟨b,o,none⟩=some v
 blk:∀i k,L[i]?=some k->bg E w i k
 fresh:∀i,L.length<=i->E.loc i=none
 own:∀i k c,L[i]?=some k->k.live=true->E.loc i=some c->(∀o,E.mem c.blk o=none)/\(S0 c.blk\/w0.heap.size<=c.blk)
 inj:∀i j k k' c c',L[i]?=some k->k.live=true->L[j]?=some k'->k'.live=true->E.loc i=some c->E.loc j=some c'->c.blk=c'.blk->i=j
 tkfresh:∀i,L.length<=i->E.tok i=none
 tkown:∀i n sz t k,L[i]?=some (.spare n sz)->E.tok i=some t->t.loc=some k->(∀o,n*sz<=o->E.mem k.blk o=none)/\(S0 k.blk\/w0.heap.size<=k.blk)
 tkloc:∀i n sz t k j k' c,L[i]?=some (.spare n sz)->E.tok i=some t->t.loc=some k->L[j]?=some k'->k'.live=true->E.loc j=some c->c.blk≠k.blk
 tkinj:∀i n sz t k i' n' sz' t' k',L[i]?=some (.spare n sz)->E.tok i=some t->t.loc=some k->L[i']?=some (.spare n' sz')->E.tok i'=some t'->t'.loc=some k'->k.blk=k'.blk->i=i'
 frame:∀k,k<w0.heap.size->¬S0 k->w.heap[k]?=w0.heap[k]?
 size:w0.heap.size<=w.heap.size
 os:w.os=w0.os
 tape:w.tape=w0.tape
 output:w.output=w0.output
 glob:s6 E.mem
 gsz:v7 w
theorem aA.mono{E E':Env}(h:E.le E'):∀{l:List (AV×AV×Nat)}{es:List MapEntry},aA E l es->aA E' l es
 |[],_,r=>by simpa[aA]using r
 |(k,x,b)::l,es,r=>by obtain⟨e,t,f,c,d,h4,a⟩:=r;exact⟨e,t,f,VR.mono h _ _ c,VR.mono h _ _ d,h4,aA.mono h a⟩
theorem MIt.mono(h:E.le E'){m r:Option Nat}(a:MIt E m r):MIt E' m r:=by
 cases m with
 |none=>exact a
 |some j=>obtain⟨d,b,c⟩:=a;exact⟨d,h.loc _ _ b,c⟩
theorem bg.mono'(h:E.le E'):∀{k:Blk},k.live=true->bg E w i k->bg E' w i k
 |.dead,q,_=>by simp[Blk.live]at q
 |.spare _ _,q,_=>by simp[Blk.live]at q
 |.cells l,_,r=>by obtain⟨c,cs,ty,fr,d,b,e,h4,f,o⟩:=r;exact⟨c,cs,ty,fr,h.loc _ _ d,b,e,h4,λj a g=>let ⟨v,x,y⟩:=f j a g;⟨v,x,VR.mono h _ _ y⟩,o⟩
 |.map es ck,_,r=>by obtain⟨c,rs,d,b,e⟩:=r;exact⟨c,rs,h.loc _ _ d,b,aA.mono h e⟩
 |.miter m since seen last,_,r=>by obtain⟨c,q,d,b,e,h4⟩:=r;exact⟨c,q,h.loc _ _ d,b,e,h4.mono h⟩
 |.siter s pos,_,r=>by obtain⟨c,d,b⟩:=r;exact⟨c,h.loc _ _ d,b⟩
 |.lrec T n fn ps ca cb busy,_,r=>by obtain⟨c,D,tm,d,b,e,h4,f⟩:=r;exact⟨c,D,tm,h.loc _ _ d,b,e,h4,λt v p=>VR.mono h _ _ (f t v p)⟩
 |.bytes l,_,r=>by obtain⟨c,cs,ty,fr,d,b,e,h4,f,o⟩:=r;exact⟨c,cs,ty,fr,h.loc _ _ d,b,e,h4,λj a g=>let ⟨v,x,y⟩:=f j a g;⟨v,x,VR.mono h _ _ y⟩,o⟩
theorem bg.mono(h:E.le E')(a:k.live=true)(r:bg E w i k):bg E' w i k:=by
 cases k<;>simp only[Blk.live,afm]at a
 all_goals exact bg.mono' h (by rfl) r
theorem bg.world(h:∀c,E.loc i=some c->w'.heap[c.blk]?=w.heap[c.blk]?)(a:∀t c,E.tok i=some t->t.loc=some c->w'.heap[c.blk]?=w.heap[c.blk]?)(r:bg E w i k):bg E w' i k:=by
 cases k<;>simp only[bg]at r⊢
 grind
 grind
 grind
 grind
 grind
 grind
 grind
theorem bg.worldL(a:k.live=true)(h:∀c,E.loc i=some c->w'.heap[c.blk]?=w.heap[c.blk]?)(r:bg E w i k):bg E w' i k:=by
 cases k<;>simp only[Blk.live,afm]at a<;>simp only[bg]at r⊢
 grind
 grind
 grind
 grind
 grind
 grind
theorem bg.still{j:Nat}(a:k.live=false)(d:E'.tok j=E.tok i)(b:∀t c n sz,k=.spare n sz->E.tok i=some t->t.loc=some c->w'.heap[c.blk]?=w.heap[c.blk]?)(r:bg E w i k):bg E' w' j k:=by
 cases k<;>simp only[Blk.live,agC]at a<;>simp only[bg]at r⊢
 grind
theorem bg.loc(r:bg E w i k)(a:k.live=true):∃c o,E.loc i=some c/\w.heap[c.blk]?=some o:=by
 cases k<;>simp only[bg,Blk.live,afm]at r a
 grind
 grind
 grind
 grind
 grind
 grind
def TR(E:Env)(T:Tm)(a:Act):Prop:=∀t v,ar T t=some v->VR E v (a.tmps.getD t undef)
theorem TR.mono(h:E.le E')(r:TR E T a):TR E' T a:=λt v b=>VR.mono h _ _ (r t v b)
theorem TR.put{d:Nat}{x:AV}(r:TR E T a)(hd:d<a.tmps.size)(c:VR E x v):TR E ((d,x)::T) (a.put (some d) v):=by intro t y b;simp only[ar]at b;simp only[Act.put];split at b;simp_all;rename_i e;have:=r t y b;simp_all
theorem TR.weak{T':Tm}(r:TR E T a)(h:∀t v,ar T' t=some v->ar T t=some v):TR E T' a:=λt v b=>r t v (h t v b)
theorem Env.le_loc(c:Loc)(h:E.loc n=none):E.le {E with loc:=λi=>if i=n then some c else E.loc i}:=
 ⟨λ_ _ _ x=>x,λi d x=>by show(if i=n then some c else E.loc i)=some d;split;rename_i e;subst e;rw[h]at x;cases x;exact x,λ_ t h=>⟨t,h,.inl rfl⟩⟩
theorem JJ{o:Obj}(h:w.cell? ⟨b,i,none⟩=some v):World.cell? {w with heap:=w.heap.push o} ⟨b,i,none⟩=some v:=by
 simp only[World.cell?]at h⊢
 grind
theorem Rel.mem_lt(h:Rel w0 S0 E L w){o:Nat}(c:E.mem b o=some v):b<w.heap.size:=by have:=h.mem _ _ _ c;rcases aft b w.heap.size with a|a;omega;simp[World.cell?,Array.getElem?_eq_none a]at this
theorem Rel.loc_lt(h:Rel w0 S0 E L w)(a:L[i]?=some k)(b:k.live=true)(d:E.loc i=some c):c.blk<w.heap.size:=by
 obtain⟨c',o,f,e⟩:=(h.blk i k a).loc b
 grind
theorem Rel.tok_lt(h:Rel w0 S0 E L w){t:Tok}(a:L[i]?=some (.spare n sz))(e:E.tok i=some t)(b:t.loc=some c):c.blk<w.heap.size:=by
 obtain⟨t',f,_,_,d⟩:=h.blk i _ a
 grind
theorem gi(b:k.live=true)(h:(L++[k])[i]?=some (.spare n sz)):L[i]?=some (.spare n sz):=by
 rw[agh]at h;split at h;omega;rcases aft (i-L.length) 1 with a|a;have:i-L.length=0:=ah3;rw[this]at h;simp at h;subst h;simp[Blk.live]at b
 grind
theorem fa(a:∀n sz,k≠.spare n sz){j:Nat}(h:(L.set i k)[j]?=some (.spare n sz)):L[j]?=some (.spare n sz):=by grind
theorem Rel.push(h:Rel w0 S0 E L w)(o:Obj)(k:Blk)(c:Loc)(Y:c.blk=w.heap.size)(q:k.live=true)(Z:bg {E with loc:=λi=>if i=L.length then some c else E.loc i} {w with heap:=w.heap.push o} L.length k):
  E.le {E with loc:=λi=>if i=L.length then some c else E.loc i} /\
  Rel w0 S0 {E with loc:=λi=>if i=L.length then some c else E.loc i} (L++[k]) {w with heap:=w.heap.push o}:=by
 have U:E.loc L.length=none:=h.fresh _ (ae0 _);have A:=Env.le_loc c U;have P:∀(i:Nat) (k':Blk),L[i]?=some k'->i≠L.length:=λi k' e=>by grind
 have J:∀i n sz t d,(L++[k])[i]?=some (.spare n sz)->E.tok i=some t->t.loc=some d->L[i]?=some (.spare n sz)/\d.blk<w.heap.size:=λi n sz t d l r hd=>⟨gi q l,h.tok_lt (gi q l) r hd⟩
 refine⟨A,⟨λb H v V=>JJ (h.mem b H v V),?_,?_,?_,?_,λi l=>h.tkfresh i (by simp at l;omega),λi n sz t d l r hd=>h.tkown i n sz t d (gi q l) r hd,?_,
  λi n sz t d W T K t' Q l r hd s F x e=>h.tkinj i n sz t d W T K t' Q (gi q l) r hd (gi q s) F x e,?_,?_,h.os,h.tape,h.output,h.glob,h.gsz.push o⟩⟩
 intro i k' a;rw[agh]at a;split at a;have y:=h.blk i k' a;rcases m:k'.live with _|_;exact bg.still (E:=E) m rfl (λt d n sz e r hd=>agd (h.tok_lt (e▸a) r hd) |>.trans (afR _).symm) y;refine bg.worldL m (λd hd=>?_) (bg.mono A m y);have x:E.loc i=some d:=by simp_all
 exact agd (h.loc_lt a m x) |>.trans (afR _).symm
 grind
 intro i l;simp at l;show(if i=L.length then some c else E.loc i)=none;rw[if_neg ah3];exact h.fresh i ah3;intro i k' d a m hd;have hd:(if i=L.length then some c else E.loc i)=some d:=hd;split at hd;cases hd;refine⟨λH=>?_,.inr (by have:=h.size;omega)⟩;rcases hm:E.mem c.blk H with _|v;rfl;have:=h.mem_lt hm;omega;rename_i l;rw[agh]at a;split at a;exact h.own i k' d a m hd;rename_i s;rcases aft (i-L.length) 1 with y|y;omega;rw[afV (by simpa using y)]at a;cases a;intro i j I G O N l m u z g f S;have g:(if i=L.length then some c else E.loc i)=some O:=g;have f:(if j=L.length then some c else E.loc j)=some N:=f;have old:∀(i:Nat) (k':Blk),(L++[k])[i]?=some k'->i≠L.length->L[i]?=some k':=λi k' a M=>by rw[agh]at a;split at a;exact a;rw[afV (by simp;omega)]at a;cases a
 by_cases D:i=L.length<;>by_cases B:j=L.length;omega;rw[if_pos D]at g;rw[if_neg B]at f;cases g;have:=h.loc_lt (old j G u B) z f;omega;rw[if_neg D]at g;rw[if_pos B]at f;cases f;have:=h.loc_lt (old i I l D) m g;omega;rw[if_neg D]at g;rw[if_neg B]at f;exact h.inj i j I G O N (old i I l D) m (old j G u B) z g f S;intro i n sz t d j k' c' l r hd u m p;have p:(if j=L.length then some c else E.loc j)=some c':=p;obtain⟨s,X⟩:=J i n sz t d l r hd;split at p;cases p;omega;rename_i M;rw[agh]at u;split at u;exact h.tkloc i n sz t d j k' c' s r hd u m p;rw[afV (by simp;omega)]at u;cases u;intro k' C R;have:=h.frame k' C R;rw[<- this];exact agd (af8 C h.size) |>.trans (afR _).symm;simp;have:=h.size;omega
theorem Rel.turn{k':Blk}(h:Rel w0 S0 E L w)(x:L[i]?=some k)(B:k.live=true)(G:E.loc i=some c)(P:w'.heap.size=w.heap.size)(A:∀b,b≠c.blk->w'.heap[b]?=w.heap[b]?)(Z:w'.os=w.os)(e2:w'.tape=w.tape)(Q:w'.output=w.output)(hb:bg E w' i k')(m:∀n sz,k'≠.spare n sz):Rel w0 S0 E (L.set i k') w':=by
 have hi:i<L.length:=(aeY.1 x).1;have q:=h.own i k c x B G;refine⟨λb o v s=>?_,?_,λj a=>h.fresh j (by simpa using a),?_,?_,λj a=>h.tkfresh j (by simpa using a),λj n sz t d a=>h.tkown j n sz t d (fa m a),λj n sz t d C g F a u hd r f p=>?_,
  λj n sz t d j' U J t' O a u hd I=>h.tkinj j n sz t d j' U J t' O (fa m a) u hd (fa m I),?_,by rw[P];exact h.size,Z.trans h.os,e2.trans h.tape,Q.trans h.output,h.glob,h.gsz.keep h.glob (λb ⟨v,s⟩=>A b λe=>by subst e;rw[q.1 0]at s;cases s)⟩
 have z:b≠c.blk:=λe=>by subst e;rw[q.1 o]at s;cases s
 have:=h.mem b o v s;simp only[World.cell?]at this⊢;simp_all;intro j g a;rw[afC]at a;split at a;simp_all;rename_i z;rcases f:g.live with _|_;exact bg.still f rfl (λt d n sz e u hd=>A d.blk λe'=>h.tkloc j n sz t d i k c (e▸a) u hd x B G e'.symm) (h.blk j g a);exact bg.worldL f (λd hd=>A d.blk λe=>z (h.inj i j k g c d x B a f G hd e.symm)) (h.blk j g a);intro j g d a f hd;rw[afC]at a;split at a;simp_all;exact h.own j g d a f hd;intro N C W g d1 F S l1 h2 V K p R;have y:∀(j:Nat) (g:Blk),(L.set i k')[j]?=some g->g.live=true->∃D:Blk,L[j]?=some D/\D.live=true:=λj g a l=>by grind
 obtain⟨D,a1,T⟩:=y N W S l1;obtain⟨Y,a2,X⟩:=y C g h2 V;exact h.inj N C D Y d1 F a1 T a2 X K p R;rw[afC]at r;split at r;rename_i e;subst e;exact h.tkloc j n sz t d i k F (fa m a) u hd x B p;exact h.tkloc j n sz t d C g F (fa m a) u hd r f p;intro b H M;rw[A b];exact h.frame b H M
 grind
theorem Rel.add(h:Rel w0 S0 E L w)(k:Blk)(c:Loc)(P:∀o,E.mem c.blk o=none)(O:S0 c.blk\/w0.heap.size<=c.blk)(p:∀(j:Nat) (k':Blk) (d:Loc),L[j]?=some k'->k'.live=true->E.loc j=some d->d.blk≠c.blk)(l:k.live=true)(D:∀i n sz t d,L[i]?=some (.spare n sz)->E.tok i=some t->t.loc=some d->c.blk≠d.blk)(N:bg {E with loc:=λi=>if i=L.length then some c else E.loc i} w L.length k):
  E.le {E with loc:=λi=>if i=L.length then some c else E.loc i}/\Rel w0 S0 {E with loc:=λi=>if i=L.length then some c else E.loc i} (L++[k]) w:=by
 have K:E.loc L.length=none:=h.fresh _ (ae0 _);have s:=Env.le_loc c K;have old:∀(i:Nat) (k':Blk),(L++[k])[i]?=some k'->i≠L.length->L[i]?=some k':=λi k' q p=>by grind
 refine⟨s,⟨h.mem,λi k' q=>?_,λi f=>?_,λi k' d q m hd=>?_,λi j y x G B f m A r b a C=>?_,λi f=>h.tkfresh i (by simp at f;omega),λi n sz t d f=>h.tkown i n sz t d (gi l f),λi n sz t d j k' c' f z hd A m g=>?_,
  λi n sz t d M J H t' I f z hd F=>h.tkinj i n sz t d M J H t' I (gi l f) z hd (gi l F),h.frame,h.size,h.os,h.tape,h.output,h.glob,h.gsz⟩⟩
 by_cases e:i=L.length;simp_all;rcases m:k'.live with _|_;exact bg.still (E:=E) m rfl (λ_ _ _ _ _ _ _=>rfl) (h.blk i k' (old i k' q e));exact bg.mono s m (h.blk i k' (old i k' q e));simp at f;show(if i=L.length then some c else E.loc i)=none;rw[if_neg ah3];exact h.fresh i ah3;have hd:(if i=L.length then some c else E.loc i)=some d:=hd;by_cases e:i=L.length;simp_all;rw[if_neg e]at hd;exact h.own i k' d (old i k' q e) m hd;have b:(if i=L.length then some c else E.loc i)=some G:=b;have a:(if j=L.length then some c else E.loc j)=some B:=a;by_cases v:i=L.length<;>by_cases u:j=L.length;omega;rw[if_pos v]at b;rw[if_neg u]at a;cases b;exact absurd C.symm (p j x B (old j x A u) r a);rw[if_neg v]at b;rw[if_pos u]at a;cases a;exact absurd C (p i y G (old i y f v) m b);rw[if_neg v]at b;rw[if_neg u]at a;exact h.inj i j y x G B (old i y f v) m (old j x A u) r b a C;have g:(if j=L.length then some c else E.loc j)=some c':=g;by_cases e:j=L.length;rw[if_pos e]at g;cases g;exact D i n sz t d (gi l f) z hd;rw[if_neg e]at g;exact h.tkloc i n sz t d j k' c' (gi l f) z hd (old j k' A e) m g
theorem Rel.kill(h:Rel w0 S0 E L w)(u:L'.length=L.length)(g:∀(i:Nat) (k:Blk),L'[i]?=some k->k=.dead\/L[i]?=some k):Rel w0 S0 E L' w:=by
 have f:∀(i:Nat) (k:Blk),L'[i]?=some k->k.live=true->L[i]?=some k:=λi k m l=>by rcases g i k m with e|e;subst e;simp[Blk.live]at l;omega
 have a:∀(i n sz:Nat),L'[i]?=some (.spare n sz)->L[i]?=some (.spare n sz):=λi n sz m=>by grind
 refine⟨h.mem,λi k m=>?_,λi b=>h.fresh i ah3,λi k c m l A=>h.own i k c (f i k m l) l A,λi j k k' c c' b s r v=>h.inj i j k k' c c' (f i k b s) s (f j k' r v) v,
  λi b=>h.tkfresh i ah3,λi n sz t d b=>h.tkown i n sz t d (a i n sz b),λi n sz t d j k' c' b p hd r l=>h.tkloc i n sz t d j k' c' (a i n sz b) p hd (f j k' r l) l,
  λi n sz t d x y o t' z b p hd q=>h.tkinj i n sz t d x y o t' z (a i n sz b) p hd (a x y o q),h.frame,h.size,h.os,h.tape,h.output,h.glob,h.gsz⟩
 rcases g i k m with e|e;subst e;simp[bg];exact h.blk i k e
mutual
def AV.refs(p:Nat->Bool):AV->Bool
 |.ptr i _=>p i
 |.iptr l _=>AV.refsL p l
 |.sl l _ _=>AV.refsL p l
 |.lsl i _ _ _ _=>p i
 |.gsl l _ i _=>p i&&AV.refsL p l
 |.lmap i=>p i
 |.yld i=>p i
 |.func _ caps=>AV.refsL p caps
 |.iface _ a=>AV.refs p a
 |.agg l=>AV.refsL p l
 |.tup l=>AV.refsL p l
 |_=>true
def AV.refsL(p:Nat->Bool):List AV->Bool
 |[]=>true
 |a::l=>AV.refs p a&&AV.refsL p l
end
theorem AV.refsL_iff{p:Nat->Bool}:∀{l:List AV},AV.refsL p l=true↔∀a∈l,AV.refs p a=true
 |[]=>by simp[AV.refsL]
 |a::l=>by simp[AV.refsL,AV.refsL_iff (l:=l)]
mutual
theorem VR.cut{E E':Env}{p:Nat->Bool}(k:∀b o v,E.mem b o=some v->E'.mem b o=some v)(h:∀i c,p i=true->E.loc i=some c->E'.loc i=some c)(j:∀i t,p i=true->E.tok i=some t->E'.tok i=some t):
  ∀(a:AV) (v:Value),a.refs p=true->VR E a v->VR E' a v
 |.undef,_,_,_=>by simp[VR]
 |.bool _,_,_,r=>by simpa[VR]using r
 |.anyb,_,_,r=>by simpa[VR]using r
 |.int _ _,_,_,r=>by simpa[VR]using r
 |.str _,_,_,r=>by simpa[VR]using r
 |.nilptr,_,_,r=>by simpa[VR]using r
 |.gptr _ _,_,_,r=>by simpa[VR]using r
 |.ptr i off,v,q,r=>by simp only[VR,AV.refs]at q r⊢;obtain⟨c,g,e⟩:=r;exact⟨c,h _ _ q g,e⟩
 |.iptr l off,v,q,r=>by simp only[VR,AV.refs]at q r⊢;obtain⟨b,o,g,e⟩:=r;exact⟨b,o,g,VRC.cut k h j l b o q e⟩
 |.nilsl,_,_,r=>by simpa[VR]using r
 |.sl l n cap,v,q,r=>by simp only[VR,AV.refs]at q r⊢;obtain⟨p,c,g,e,s,h4⟩:=r;exact⟨p,c,g,e,s,h4.imp id λ⟨b,o,m,u⟩=>⟨b,o,m,VRC.cut k h j l b o q u⟩⟩
 |.gsl l n i sz,v,q,r=>by simp only[VR,AV.refs,ae7]at q r⊢;obtain⟨p,c,g,e,s,h4,t,m,u⟩:=r;exact⟨p,c,g,e,s,h4.imp id λ⟨b,o,z,w⟩=>⟨b,o,z,VRC.cut k h j l b o q.2 w⟩,t,j _ _ q.1 m,u⟩
 |.lsl i off len cap sz,v,q,r=>by simp only[VR,AV.refs]at q r⊢;obtain⟨c,y,d,g,e⟩:=r;exact⟨c,y,d,h _ _ q g,e⟩
 |.nilmap,_,_,r=>by simpa[VR]using r
 |.lmap i,v,q,r=>by simp only[VR,AV.refs]at q r⊢;obtain⟨c,g,e⟩:=r;exact⟨c,h _ _ q g,e⟩
 |.yld i,v,q,r=>by simp only[VR,AV.refs]at q r⊢;obtain⟨c,g,e⟩:=r;exact⟨c,h _ _ q g,e⟩
 |.func f caps,v,q,r=>by simp only[VR,AV.refs]at q r⊢;obtain⟨vs,g,e⟩:=r;exact⟨vs,g,VRL.cut k h j caps vs q e⟩
 |.nilfunc,_,_,r=>by simpa[VR]using r
 |.nilif,_,_,r=>by simpa[VR]using r
 |.iface t a,v,q,r=>by simp only[VR,AV.refs]at q r⊢;obtain⟨x,g,e⟩:=r;exact⟨x,g,VR.cut k h j a x q e⟩
 |.agg l,v,q,r=>by simp only[VR,AV.refs]at q r⊢;obtain⟨vs,g,e⟩:=r;exact⟨vs,g,VRL.cut k h j l vs q e⟩
 |.tup l,v,q,r=>by simp only[VR,AV.refs]at q r⊢;obtain⟨vs,g,e⟩:=r;exact⟨vs,g,VRL.cut k h j l vs q e⟩
theorem VRL.cut{E E':Env}{p:Nat->Bool}(f:∀b o v,E.mem b o=some v->E'.mem b o=some v)(e:∀i c,p i=true->E.loc i=some c->E'.loc i=some c)(d:∀i t,p i=true->E.tok i=some t->E'.tok i=some t):
  ∀(l:List AV) (vs:List Value),AV.refsL p l=true->VRL E l vs->VRL E' l vs
 |[],_,_,r=>by simpa[VRL]using r
 |a::l,vs,q,r=>by simp only[VRL,AV.refsL,ae7]at q r⊢;obtain⟨x,xs,h,g,j⟩:=r;exact⟨x,xs,h,VR.cut f e d a x q.1 g,VRL.cut f e d l xs q.2 j⟩
theorem VRC.cut{E E':Env}{p:Nat->Bool}(d:∀b o v,E.mem b o=some v->E'.mem b o=some v)(f:∀i c,p i=true->E.loc i=some c->E'.loc i=some c)(e:∀i t,p i=true->E.tok i=some t->E'.tok i=some t):
  ∀(l:List AV) (b o:Nat),AV.refsL p l=true->VRC E l b o->VRC E' l b o
 |[],_,_,_,_=>by simp[VRC]
 |a::l,b,o,q,r=>by simp only[VRC,AV.refsL,ae7]at q r⊢;obtain⟨⟨x,h,g⟩,j⟩:=r;exact⟨⟨x,d _ _ _ h,VR.cut d f e a x q.1 g⟩,VRC.cut d f e l b (o+1) q.2 j⟩
end
mutual
def AV.ren(f:Nat->Nat):AV->AV
 |.ptr i o=>.ptr (f i) o
 |.iptr l o=>.iptr (AV.renL f l) o
 |.sl l n c=>.sl (AV.renL f l) n c
 |.lsl i o n c s=>.lsl (f i) o n c s
 |.gsl l n i s=>.gsl (AV.renL f l) n (f i) s
 |.lmap i=>.lmap (f i)
 |.yld i=>.yld (f i)
 |.func g caps=>.func g (AV.renL f caps)
 |.iface t a=>.iface t (AV.ren f a)
 |.agg l=>.agg (AV.renL f l)
 |.tup l=>.tup (AV.renL f l)
 |a=>a
def AV.renL(f:Nat->Nat):List AV->List AV
 |[]=>[]
 |a::l=>AV.ren f a::AV.renL f l
end
theorem AV.renL_eq{f:Nat->Nat}:∀{l:List AV},AV.renL f l=l.map (AV.ren f)
 |[]=>rfl
 |a::l=>by simp[AV.renL,AV.renL_eq (l:=l)]
mutual
theorem VR.ren{E E':Env}{p:Nat->Bool}{f:Nat->Nat}(m:∀b o v,E.mem b o=some v->E'.mem b o=some v)(j:∀i c,p i=true->E.loc i=some c->E'.loc (f i)=some c)(k:∀i t,p i=true->E.tok i=some t->E'.tok (f i)=some t):
  ∀(a:AV) (v:Value),a.refs p=true->VR E a v->VR E' (a.ren f) v
 |.undef,_,_,_=>by simp[VR,AV.ren]
 |.bool _,_,_,r=>by simpa[VR,AV.ren]using r
 |.anyb,_,_,r=>by simpa[VR,AV.ren]using r
 |.int _ _,_,_,r=>by simpa[VR,AV.ren]using r
 |.str _,_,_,r=>by simpa[VR,AV.ren]using r
 |.nilptr,_,_,r=>by simpa[VR,AV.ren]using r
 |.gptr _ _,_,_,r=>by simpa[VR,AV.ren]using r
 |.ptr i off,v,q,r=>by simp only[VR,AV.ren,AV.refs]at q r⊢;obtain⟨c,h,e⟩:=r;exact⟨c,j _ _ q h,e⟩
 |.iptr l off,v,q,r=>by simp only[VR,AV.ren,AV.refs]at q r⊢;obtain⟨b,o,h,e⟩:=r;exact⟨b,o,h,VRC.ren m j k l b o q e⟩
 |.nilsl,_,_,r=>by simpa[VR,AV.ren]using r
 |.sl l n cap,v,q,r=>by simp only[VR,AV.ren,AV.refs]at q r⊢;obtain⟨p,c,h,e,w,h4⟩:=r;exact⟨p,c,h,e,w,h4.imp (λ⟨u,z,a3⟩=>⟨u,z,by subst a3;rfl⟩) λ⟨b,o,s,y⟩=>⟨b,o,s,VRC.ren m j k l b o q y⟩⟩
 |.gsl l n i sz,v,q,r=>by simp only[VR,AV.refs,AV.ren,ae7]at q r⊢;obtain⟨p,c,h,e,w,h4,t,s,y⟩:=r;exact⟨p,c,h,e,by rw[AV.renL_eq];simpa using w,h4.imp (λ⟨u,z,a3⟩=>⟨u,z,by subst a3;rfl⟩) λ⟨b,o,C,A⟩=>⟨b,o,C,VRC.ren m j k l b o q.2 A⟩,t,k _ _ q.1 s,y⟩
 |.lsl i off len cap sz,v,q,r=>by simp only[VR,AV.ren,AV.refs]at q r⊢;obtain⟨c,B,d,h,e⟩:=r;exact⟨c,B,d,j _ _ q h,e⟩
 |.nilmap,_,_,r=>by simpa[VR,AV.ren]using r
 |.lmap i,v,q,r=>by simp only[VR,AV.ren,AV.refs]at q r⊢;obtain⟨c,h,e⟩:=r;exact⟨c,j _ _ q h,e⟩
 |.yld i,v,q,r=>by simp only[VR,AV.ren,AV.refs]at q r⊢;obtain⟨c,h,e⟩:=r;exact⟨c,j _ _ q h,e⟩
 |.func g caps,v,q,r=>by simp only[VR,AV.ren,AV.refs]at q r⊢;obtain⟨vs,h,e⟩:=r;exact⟨vs,h,VRL.ren m j k caps vs q e⟩
 |.nilfunc,_,_,r=>by simpa[VR,AV.ren]using r
 |.nilif,_,_,r=>by simpa[VR,AV.ren]using r
 |.iface t a,v,q,r=>by simp only[VR,AV.ren,AV.refs]at q r⊢;obtain⟨x,h,e⟩:=r;exact⟨x,h,VR.ren m j k a x q e⟩
 |.agg l,v,q,r=>by simp only[VR,AV.ren,AV.refs]at q r⊢;obtain⟨vs,h,e⟩:=r;exact⟨vs,h,VRL.ren m j k l vs q e⟩
 |.tup l,v,q,r=>by simp only[VR,AV.ren,AV.refs]at q r⊢;obtain⟨vs,h,e⟩:=r;exact⟨vs,h,VRL.ren m j k l vs q e⟩
theorem VRL.ren{E E':Env}{p:Nat->Bool}{f:Nat->Nat}(g:∀b o v,E.mem b o=some v->E'.mem b o=some v)(e:∀i c,p i=true->E.loc i=some c->E'.loc (f i)=some c)(d:∀i t,p i=true->E.tok i=some t->E'.tok (f i)=some t):
  ∀(l:List AV) (vs:List Value),AV.refsL p l=true->VRL E l vs->VRL E' (AV.renL f l) vs
 |[],_,_,r=>by simpa[VRL,AV.renL]using r
 |a::l,vs,q,r=>by simp only[VRL,AV.refsL,AV.renL,ae7]at q r⊢;obtain⟨x,xs,j,h,k⟩:=r;exact⟨x,xs,j,VR.ren g e d a x q.1 h,VRL.ren g e d l xs q.2 k⟩
theorem VRC.ren{E E':Env}{p:Nat->Bool}{f:Nat->Nat}(d:∀b o v,E.mem b o=some v->E'.mem b o=some v)(g:∀i c,p i=true->E.loc i=some c->E'.loc (f i)=some c)(e:∀i t,p i=true->E.tok i=some t->E'.tok (f i)=some t):
  ∀(l:List AV) (b o:Nat),AV.refsL p l=true->VRC E l b o->VRC E' (AV.renL f l) b o
 |[],_,_,_,_=>by simp[VRC,AV.renL]
 |a::l,b,o,q,r=>by simp only[VRC,AV.refsL,AV.renL,ae7]at q r⊢;obtain⟨⟨x,j,h⟩,k⟩:=r;exact⟨⟨x,d _ _ _ j,VR.ren d g e a x q.1 h⟩,VRC.ren d g e l b (o+1) q.2 k⟩
end
theorem Rel.snap(h:Rel w0 S0 E L w)(A:L[i]?=some (.cells l))(B:E.loc i=some c):
  ∃E',E.le E'/\Rel w0 S0 E' (L.set i .dead) w/\VRC E' l c.blk c.off/\E'.loc=E.loc:=by
 obtain⟨c',cs,ty,fr,H,Q,S,h4,P,T⟩:=h.blk i _ A;rw[B]at H;cases H;have I:=h.own i _ c A rfl B;have r:E.le {E with mem:=λb o=>if b=c.blk/\c.off<=o/\o<c.off+l.length then w.cell? ⟨b,o,none⟩else E.mem b o}:=by
  refine⟨λb o v y=>?_,λ_ _ x=>x,λ_ t h=>⟨t,h,.inl rfl⟩⟩
  grind
 refine⟨{E with mem:=λb o=>if b=c.blk/\c.off<=o/\o<c.off+l.length then w.cell? ⟨b,o,none⟩else E.mem b o},r,?_,?_,rfl⟩;have q:∀(j:Nat) (k:Blk),(L.set i .dead)[j]?=some k->k.live=true->j≠i/\L[j]?=some k:=λj k m p=>by
  rw[afC]at m;split at m;split at m;cases m;simp[Blk.live]at p;simp_all
  grind
 refine⟨λb o v y=>?_,λj k m=>?_,λj g=>h.fresh j (by simpa using g),λj k d m p hd=>?_,λj u k k' d C g J f z=>h.inj j u k k' d C (q j k g J).2 J (q u k' f z).2 z,
  λj g=>h.tkfresh j (by simpa using g),λj n sz t d g s hd=>⟨λo N=>?_,(h.tkown j n sz t d (fa ah4 g) s hd).2⟩,λj n sz t d u k' c' g s hd f p=>h.tkloc j n sz t d u k' c' (fa ah4 g) s hd (q u k' f p).2 p,
  λj n sz t d u M D t' C g s hd f=>h.tkinj j n sz t d u M D t' C (fa ah4 g) s hd (fa ah4 f),h.frame,h.size,h.os,h.tape,h.output,h.glob.mono r.mem,h.gsz⟩
 have y:(if b=c.blk/\c.off<=o/\o<c.off+l.length then w.cell? ⟨b,o,none⟩else E.mem b o)=some v:=y;split at y;exact y;exact h.mem b o v y;rcases p:k.live with _|_;rw[afC]at m;split at m;split at m;cases m;simp[bg];cases m;exact bg.still (E:=E) p rfl (λ_ _ _ _ _ _ _=>rfl) (h.blk j k m);exact bg.mono r p (h.blk j k (q j k m p).2);obtain⟨F,g⟩:=q j k m p;have hd:E.loc j=some d:=hd;refine⟨λo=>?_,(h.own j k d g p hd).2⟩;show(if d.blk=c.blk/\c.off<=o/\o<c.off+l.length then w.cell? ⟨d.blk,o,none⟩else E.mem d.blk o)=none;rw[if_neg λe=>F (h.inj j i k _ d c g p A rfl hd B e.1)];exact(h.own j k d g p hd).1 o;have f:=fa ah4 g;show(if d.blk=c.blk/\c.off<=o/\o<c.off+l.length then w.cell? ⟨d.blk,o,none⟩else E.mem d.blk o)=none;rw[if_neg λe=>h.tkloc j n sz t d i _ c f s hd A rfl B e.1.symm];exact(h.tkown j n sz t d f s hd).1 o N;refine VRC.of_get λj a G=>?_
 obtain⟨v,K,O⟩:=P j a G;have R:j<l.length:=(aeY.1 G).1;refine⟨v,?_,VR.mono r _ _ O⟩;show(if c.blk=c.blk/\c.off<=c.off+j/\c.off+j<c.off+l.length then w.cell? ⟨c.blk,c.off+j,none⟩else E.mem c.blk (c.off+j))=some v;rw[if_pos ⟨rfl,ah3,ah3⟩];simp[World.cell?,Q,K]
theorem Rel.imm(h:Rel w0 S0 E L w)(cs:List Value)(ty:TypeId)(l:List AV)(f:VRL E l cs)(m:List Value)(fr:Nat×Nat):
  ∃E',E.le E'/\Rel w0 S0 E' L {w with heap:=w.heap.push (.cells ⟨cs++m⟩ ty fr)}/\VRC E' l w.heap.size 0/\E'.loc=E.loc:=by
 have g:E.le {E with mem:=λb o=>if b=w.heap.size then cs[o]? else E.mem b o}:=by refine⟨λb o v i=>?_,λ_ _ x=>x,λ_ t h=>⟨t,h,.inl rfl⟩⟩;show(if b=w.heap.size then cs[o]? else E.mem b o)=some v;rw[if_neg (by have:=h.mem_lt i;omega)];exact i
 refine⟨{E with mem:=λb o=>if b=w.heap.size then cs[o]? else E.mem b o},g,?_,?_,rfl⟩;refine⟨λb o v i=>?_,λj k c=>?_,h.fresh,λj k d c f hd=>?_,h.inj,h.tkfresh,λj n sz t d r p hd=>⟨λo z=>?_,(h.tkown j n sz t d r p hd).2⟩,h.tkloc,h.tkinj,λk c u=>?_,?_,h.os,h.tape,h.output,h.glob.mono g.mem,h.gsz.push _⟩;replace i:(if b=w.heap.size then cs[o]? else E.mem b o)=some v:=i;by_cases e:b=w.heap.size;rw[if_pos e]at i;subst e;have q:o<cs.length:=(aeY.1 i).1;simp[World.cell?,agh,q];simp_all;rw[if_neg e]at i;exact JJ (h.mem b o v i);rcases f:k.live with _|_;exact bg.still (E:=E) f rfl (λt d n sz e p hd=>agd (h.tok_lt (e▸c) p hd) |>.trans (afR _).symm) (h.blk j k c);refine bg.worldL f (λd hd=>?_) (bg.mono g f (h.blk j k c));exact agd (h.loc_lt c f hd) |>.trans (afR _).symm;refine⟨λo=>?_,(h.own j k d c f hd).2⟩;show(if d.blk=w.heap.size then cs[o]? else E.mem d.blk o)=none;rw[if_neg (by have:=h.loc_lt c f hd;omega)];exact(h.own j k d c f hd).1 o;show(if d.blk=w.heap.size then cs[o]? else E.mem d.blk o)=none;rw[if_neg (by have:=h.tok_lt r p hd;omega)];exact(h.tkown j n sz t d r p hd).1 o z;rw[<- h.frame k c u];exact agd (af8 c h.size) |>.trans (afR _).symm;simp;have:=h.size;omega;refine VRC.of_get λj a y=>?_
 obtain⟨v,A,s⟩:=f.get y;refine⟨v,?_,VR.mono g _ _ s⟩;simp[*]
def Mt(E:Env)(L:List Blk)(b:Nat):Prop:=(∃i k c,L[i]?=some k/\k.live=true/\E.loc i=some c/\c.blk=b)\/∃i n sz t c,L[i]?=some (.spare n sz)/\E.tok i=some t/\t.loc=some c/\c.blk=b
theorem Rel.enter(h:Rel w0 S0 E L w)(B:Nat:=0):Rel w ⟨Mt E L,B⟩ E L w :=
 ⟨h.mem,h.blk,h.fresh,λi k c d f a=>⟨(h.own i k c d f a).1,.inl (.inl ⟨i,k,c,d,f,a,rfl⟩)⟩,h.inj,h.tkfresh,λi n sz t c b e a=>⟨(h.tkown i n sz t c b e a).1,.inl (.inr ⟨i,n,sz,t,c,b,e,a,rfl⟩)⟩,h.tkloc,h.tkinj,λ_ _ _=>rfl,ae0 _,rfl,rfl,rfl,h.glob,h.gsz⟩
theorem Rel.back{B:Nat}(h:Rel w0 S0 E L w)(k:Rel w ⟨Mt E L,B⟩ E' L' w'):Rel w0 S0 E' L' w':=by
 have key:∀b,Mt E L b->S0 b\/w0.heap.size<=b:=λb e=>by rcases e with⟨i,k,c,a,f,g,h4⟩|⟨i,n,sz,t,c,a,f,g,h4⟩;exact h4▸(h.own i k c a f g).2;exact h4▸(h.tkown i n sz t c a f g).2
 refine⟨k.mem,k.blk,k.fresh,λi x c p o d=>⟨(k.own i x c p o d).1,?_⟩,k.inj,k.tkfresh,λi n sz t c j m d=>⟨(k.tkown i n sz t c j m d).1,?_⟩,k.tkloc,k.tkinj,λb e l=>?_,afw h.size k.size,k.os.trans h.os,k.tape.trans h.tape,k.output.trans h.output,k.glob,k.gsz⟩;rcases(k.own i x c p o d).2 with a|a;simp_all;exact .inr (afw h.size a);rcases(k.tkown i n sz t c j m d).2 with a|a;simp_all;exact .inr (afw h.size a);rw[k.frame b (af8 e h.size) λq=>(key b q).elim l (λa=>ah3),h.frame b e l]
def Env.res(E:Env)(n:Nat)(g:Nat->Nat):Env:={mem:=E.mem,loc:=λi=>if i<n then E.loc (g i)else none,tok:=λi=>if i<n then E.tok (g i)else none}
theorem Env.res_loc{g:Nat->Nat}(h:i<n):(E.res n g).loc i=E.loc (g i):=by simp[Env.res,h]
theorem Env.res_tok{g:Nat->Nat}(h:i<n):(E.res n g).tok i=E.tok (g i):=by simp[Env.res,h]
theorem Rel.renum(h:Rel w0 S0 E L w)(g:Nat->Nat)(f:∀i j,i<L'.length->j<L'.length->g i=g j->i=j)(r:∀(i n sz:Nat),L'[i]?=some (.spare n sz)->L[g i]?=some (.spare n sz))(A:∀(i:Nat) (k:Blk),L'[i]?=some k->k.live=true->∃o:Blk,L[g i]?=some o/\o.live=true/\bg (E.res L'.length g) w i k):
  Rel w0 S0 (E.res L'.length g) L' w:=by
 have lt:∀(i:Nat) (k:Blk),L'[i]?=some k->i<L'.length:=λi k l=>(aeY.1 l).1
 refine⟨h.mem,λi k l=>?_,λi a=>?_,λi k c l y F=>?_,λi j k k' c c' a J p K q v H=>?_,λi a=>?_,λi n sz t d a b hd=>?_,λi n sz t d j k' c' a b hd p y z=>?_,λi n sz t d B I C t' G a b hd m s D e=>?_,h.frame,h.size,h.os,h.tape,h.output,h.glob,h.gsz⟩;rcases y:k.live with _|_;cases k<;>simp only[Blk.live,agC]at y;simp[bg];exact bg.still (i:=g i) rfl (Env.res_tok (lt i _ l)) (λ_ _ _ _ _ _ _=>rfl) (h.blk (g i) _ (r i _ _ l))
 grind
 simp only[Env.res]
 grind
 rw[Env.res_loc (lt i k l)]at F;obtain⟨o,u,x,_⟩:=A i k l y;exact h.own (g i) o c u x F;rw[Env.res_loc (lt i k a)]at q;rw[Env.res_loc (lt j k' p)]at v;obtain⟨o,u,x,_⟩:=A i k a J;obtain⟨N,M,h4,_⟩:=A j k' p K;exact f i j (lt i k a) (lt j k' p) (h.inj _ _ _ _ _ _ u x M h4 q v H);simp only[Env.res]
 grind
 rw[Env.res_tok (lt i _ a)]at b;exact h.tkown (g i) n sz t d (r _ _ _ a) b hd;rw[Env.res_tok (lt i _ a)]at b;rw[Env.res_loc (lt j k' p)]at z;obtain⟨o,u,x,_⟩:=A j k' p y;exact h.tkloc (g i) n sz t d (g j) o c' (r _ _ _ a) b hd u x z;rw[Env.res_tok (lt i _ a)]at b;rw[Env.res_tok (lt B _ m)]at s;exact f i B (lt i _ a) (lt B _ m) (h.tkinj (g i) n sz t d (g B) I C t' G (r _ _ _ a) b hd (r _ _ _ m) s D e)
def Blk.refs(p:Nat->Bool):Blk->Bool
 |.cells l=>AV.refsL p l
 |.map es _=>es.all λe=>e.1.refs p&&e.2.1.refs p
 |.miter (some j) _ _ _=>p j
 |.bytes l=>AV.refsL p l
 |.lrec T _ _ _ _ _ _=>T.all λe=>((ar T e.1).map (AV.refs p)).getD true
 |_=>true
theorem aA.cut{E E':Env}{p:Nat->Bool}(f:∀b o v,E.mem b o=some v->E'.mem b o=some v)(d:∀i c,p i=true->E.loc i=some c->E'.loc i=some c)(a:∀i t,p i=true->E.tok i=some t->E'.tok i=some t):
  ∀{l:List (AV×AV×Nat)}{es:List MapEntry},(l.all λe=>e.1.refs p&&e.2.1.refs p)=true->aA E l es->aA E' l es
 |[],_,_,r=>by simpa[aA]using r
 |(k,x,b)::l,es,q,r=>by simp only[af2,ae7,aA]at q r⊢;obtain⟨e,t,j,h,m,h4,g⟩:=r;exact⟨e,t,j,VR.cut f d a _ _ q.1.1 h,VR.cut f d a _ _ q.1.2 m,h4,aA.cut f d a q.2 g⟩
theorem bg.cut{p:Nat->Bool}(C:∀b o v,E.mem b o=some v->E'.mem b o=some v)(A:∀i c,p i=true->E.loc i=some c->E'.loc i=some c)(B:∀i t,p i=true->E.tok i=some t->E'.tok i=some t)(h:∀c,E.loc i=some c->E'.loc i=some c):∀{k:Blk},k.live=true->k.refs p=true->bg E w i k->bg E' w i k
 |.dead,q,_,_=>by simp[Blk.live]at q
 |.spare _ _,q,_,_=>by simp[Blk.live]at q
 |.cells l,_,q,r=>by simp only[bg,Blk.refs]at q r⊢;obtain⟨c,cs,ty,fr,e,f,g,h4,z,G⟩:=r;exact⟨c,cs,ty,fr,h _ e,f,g,h4,λj a u=>let ⟨v,x,y⟩:=z j a u;⟨v,x,VR.cut C A B _ _ (AV.refsL_iff.1 q a (af0 u)) y⟩,G⟩
 |.map es ck,_,q,r=>by simp only[bg,Blk.refs]at q r⊢;obtain⟨c,rs,e,f,g⟩:=r;exact⟨c,rs,h _ e,f,aA.cut C A B q g⟩
 | .miter m since seen last,_,q,r=>by
   simp only[bg]at r⊢;obtain⟨c,s,e,f,g,h4⟩:=r;refine⟨c,s,h _ e,f,g,?_⟩;cases m with
   |none=>exact h4
   |some j=>obtain⟨d,g1,H⟩:=h4;exact⟨d,A j d q g1,H⟩
 |.lrec T n fn ps ca cb busy,_,q,r=>by simp only[bg,Blk.refs,afd]at q r⊢;obtain⟨c,D,tm,e,f,g,h4,z⟩:=r;exact⟨c,D,tm,h _ e,f,g,h4,λt v F=>VR.cut C A B _ _ (by simpa[F]using q (t,v) (LY F)) (z t v F)⟩
 | .siter s pos,_,_,r=>by
   simp only[bg]at r⊢
   grind
 |.bytes l,_,q,r=>by simp only[bg,Blk.refs]at q r⊢;obtain⟨c,cs,ty,fr,e,f,g,h4,z,G⟩:=r;exact⟨c,cs,ty,fr,h _ e,f,g,h4,λj a u=>let ⟨v,x,y⟩:=z j a u;⟨v,x,VR.cut C A B _ _ (AV.refsL_iff.1 q a (af0 u)) y⟩,G⟩
theorem Rel.cut(h:Rel w0 S0 E (L++L') w)(hr:∀k∈L,k.refs (λi=>decide (i<L.length))=true):
  Rel w0 S0 (E.res L.length id) L w:=by
 have b:∀(i:Nat) (k:Blk),L[i]?=some k->(L++L')[i]?=some k:=λi k a=>by grind
 refine h.renum (L':=L) id (λ_ _ _ _ e=>e) (λi n sz m=>b i _ m) λi k a l=>?_
 have f:i<L.length:=(aeY.1 a).1;refine⟨k,b i k a,l,?_⟩;refine bg.cut (E:=E) (E':=E.res L.length id) (p:=λi=>decide (i<L.length)) (λ_ _ _ x=>x) (λj c g d=>?_) (λj t g o=>?_) (λc d=>?_) l (hr k (af0 a)) (h.blk i k (b i k a));rw[Env.res_loc (by simpa using g)];exact d;rw[Env.res_tok (by simpa using g)];exact o;rw[Env.res_loc f];exact d
theorem Rel.imm'(h:Rel w0 S0 E L w)(cs:List Value)(ty:TypeId)(l:List AV)(f:VRL E l cs)(m:List Value)(fr:Nat×Nat):
  ∃E',E.le E'/\Rel w0 S0 E' L {w with heap:=w.heap.push (.cells ⟨cs++m⟩ ty fr)}/\VRC E' l w.heap.size 0/\E'.loc=E.loc/\E'.tok=E.tok/\∀o,cs.length<=o->E'.mem w.heap.size o=none:=by
 have i:E.le {E with mem:=λb o=>if b=w.heap.size then cs[o]? else E.mem b o}:=by refine⟨λb o v g=>?_,λ_ _ x=>x,λ_ t h=>⟨t,h,.inl rfl⟩⟩;show(if b=w.heap.size then cs[o]? else E.mem b o)=some v;rw[if_neg (by have:=h.mem_lt g;omega)];exact g
 refine⟨{E with mem:=λb o=>if b=w.heap.size then cs[o]? else E.mem b o},i,?_,?_,rfl,rfl,λo s=>?_⟩;refine⟨λb o v g=>?_,λj k c=>?_,h.fresh,λj k d c f hd=>?_,h.inj,h.tkfresh,λj n sz t d r p hd=>⟨λo s=>?_,(h.tkown j n sz t d r p hd).2⟩,h.tkloc,h.tkinj,λk c y=>?_,?_,h.os,h.tape,h.output,h.glob.mono i.mem,h.gsz.push _⟩;replace g:(if b=w.heap.size then cs[o]? else E.mem b o)=some v:=g;by_cases e:b=w.heap.size;rw[if_pos e]at g;subst e;have q:o<cs.length:=(aeY.1 g).1;simp[World.cell?,agh,q];simpa[afn q]using g;rw[if_neg e]at g;exact JJ (h.mem b o v g);rcases f:k.live with _|_;exact bg.still (E:=E) f rfl (λt d n sz e p hd=>agd (h.tok_lt (e▸c) p hd) |>.trans (afR _).symm) (h.blk j k c);refine bg.worldL f (λd hd=>?_) (bg.mono i f (h.blk j k c));exact agd (h.loc_lt c f hd) |>.trans (afR _).symm;have hd:E.loc j=some d:=hd;refine⟨λo=>?_,(h.own j k d c f hd).2⟩;show(if d.blk=w.heap.size then cs[o]? else E.mem d.blk o)=none;rw[if_neg (by have:=h.loc_lt c f hd;omega)];exact(h.own j k d c f hd).1 o;show(if d.blk=w.heap.size then cs[o]? else E.mem d.blk o)=none;rw[if_neg (by have:=h.tok_lt r p hd;omega)];exact(h.tkown j n sz t d r p hd).1 o s;rw[<- h.frame k c y];exact agd (af8 c h.size) |>.trans (afR _).symm;simp;have:=h.size;omega;refine VRC.of_get λj a z=>?_
 obtain⟨v,A,u⟩:=f.get z;refine⟨v,?_,VR.mono i _ _ u⟩;show(if w.heap.size=w.heap.size then cs[0+j]? else E.mem w.heap.size (0+j))=some v;simpa using A;show(if w.heap.size=w.heap.size then cs[o]? else E.mem w.heap.size o)=none;rw[if_pos rfl];simpa using s
def Yr(w0:World)(S0:SB)(E:Env)(L:List Blk)(w:World)(i n sz:Nat)(lc:Option Loc):Prop:=∀k,lc=some k ->
 (∃cs ty fr,w.heap[k.blk]?=some (.cells cs ty fr)/\cs.size=k.size/\(∀o,n*sz<=o->o<k.size->¬(fr.1<=o/\o<fr.2)))/\(∀o,n*sz<=o->E.mem k.blk o=none)/\(S0 k.blk\/w0.heap.size<=k.blk) /\
 (∀j k' c,L[j]?=some k'->k'.live=true->E.loc j=some c->c.blk≠k.blk)/\(∀j n' sz' t' k',j≠i->L[j]?=some (.spare n' sz')->E.tok j=some t'->t'.loc=some k'->k'.blk≠k.blk)
theorem Nm      :Yr w0 S0 E L w i n sz none:=λ_ h=>by cases h
theorem Rel.settok(h:Rel w0 S0 E L w){lc:Option Loc}(H:∃m s,L[i]?=some (.spare m s))(B:∀t,E.tok i=some t->t.pos<n)(hr:Yr w0 S0 E L w i n sz lc):
  E.le {E with tok:=λj=>if j=i then some ⟨n,sz,lc⟩else E.tok j}/\Rel w0 S0 {E with tok:=λj=>if j=i then some ⟨n,sz,lc⟩else E.tok j} (L.set i (.spare n sz)) w:=by
 obtain⟨Q,R,H⟩:=H;have F:i<L.length:=(aeY.1 H).1;have o:∀(j:Nat) (k:Blk),(L.set i (.spare n sz))[j]?=some k->k.live=true->j≠i/\L[j]?=some k:=λj k a p=>by
  rw[afC]at a;by_cases e:i=j;subst e;rw[if_pos rfl,if_pos F]at a;cases a;simp[Blk.live]at p
  grind
 have g:∀(j b f:Nat) (t:Tok),(L.set i (.spare n sz))[j]?=some (.spare b f)->(if j=i then some (⟨n,sz,lc⟩:Tok)else E.tok j)=some t->(j=i/\b=n/\f=sz/\t=⟨n,sz,lc⟩)\/(j≠i/\L[j]?=some (.spare b f)/\E.tok j=some t):=λj b f t a u=>by grind
 have C:E.le {E with tok:=λj=>if j=i then some ⟨n,sz,lc⟩else E.tok j}:=⟨λ_ _ _ x=>x,λ_ _ x=>x,λj t u=>by show ∃t',(if j=i then some (⟨n,sz,lc⟩:Tok)else E.tok j)=some t'/\_;by_cases e:j=i;subst e;exact⟨_,if_pos rfl,.inr (B t u)⟩;exact⟨t,by rw[if_neg e];exact u,.inl rfl⟩⟩
 refine⟨C,h.mem,λj k a=>?_,λj r=>h.fresh j (by simpa using r),λj k c a p O=>h.own j k c (o j k a p).2 p O,λj q k k' c c' a p K l=>h.inj j q k k' c c' (o j k a p).2 p (o q k' K l).2 l,
  λj r=>?_,λj b f t d r u hd=>?_,λj b f t d q k' c' r u hd v l D=>?_,λj b f t d q N M t' I r u hd v J y e=>?_,h.frame,h.size,h.os,h.tape,h.output,h.glob,h.gsz⟩
 rcases p:k.live with _|_;rw[afC]at a;by_cases e:i=j;subst e;rw[if_pos rfl,if_pos F]at a;cases a;refine⟨⟨n,sz,lc⟩,ah4,rfl,rfl,λk a=>(hr k a).1⟩;rw[if_neg e]at a;refine bg.still (E:=E) (i:=j) p ?_ (λ_ _ _ _ _ _ _=>rfl) (h.blk j k a)
 grind
 exact bg.mono C p (h.blk j k (o j k a p).2);show(if j=i then some _ else E.tok j)=none
 rw [if_neg (by have : L.length <= j := by simpa using r
                omega)]
 exact h.tkfresh j (by simpa using r);rcases g j b f t r u with⟨rfl,rfl,rfl,rfl⟩|⟨_,z,A⟩;exact⟨(hr d hd).2.1,(hr d hd).2.2.1⟩;exact h.tkown j b f t d z A hd;obtain⟨_,G⟩:=o q k' v l;rcases g j b f t r u with⟨rfl,rfl,rfl,rfl⟩|⟨_,z,A⟩;exact(hr d hd).2.2.2.1 q k' c' G l D;exact h.tkloc j b f t d q k' c' z A hd G l D;rcases g j b f t r u with⟨rfl,rfl,rfl,rfl⟩|⟨P,z,A⟩<;>rcases g q N M t' v J with⟨rfl,rfl,rfl,rfl⟩|⟨n3,G,h4⟩;rfl;exact absurd e.symm ((hr d hd).2.2.2.2 q N M t' I n3 G h4 y);exact absurd e ((hr I y).2.2.2.2 j b f t d P z A hd);exact h.tkinj j b f t d q N M t' I z A hd G h4 y e
theorem Rel.addtok(h:Rel w0 S0 E L w){lc:Option Loc}(hr:Yr w0 S0 E L w L.length n sz lc):
  E.le {E with tok:=λj=>if j=L.length then some ⟨n,sz,lc⟩else E.tok j}/\Rel w0 S0 {E with tok:=λj=>if j=L.length then some ⟨n,sz,lc⟩else E.tok j} (L++[.spare n sz]) w:=by
 have M:E.tok L.length=none:=h.tkfresh _ (ae0 _);have z:E.le {E with tok:=λj=>if j=L.length then some ⟨n,sz,lc⟩else E.tok j}:=⟨λ_ _ _ x=>x,λ_ _ x=>x,λj t o=>by show ∃t',(if j=L.length then some (⟨n,sz,lc⟩:Tok)else E.tok j)=some t'/\_;rw[if_neg (λe=>by rw[e,M]at o;cases o)];exact⟨t,o,.inl rfl⟩⟩
 have lt:∀(i:Nat) (k:Blk),L[i]?=some k->i<L.length:=λi k l=>(aeY.1 l).1
 have A:∀(j:Nat) (k:Blk),(L++[.spare n sz])[j]?=some k->(j=L.length/\k=.spare n sz)\/(j<L.length/\L[j]?=some k):=λj k l=>by grind
 have b:∀(j:Nat) (k:Blk),(L++[.spare n sz])[j]?=some k->k.live=true->L[j]?=some k:=λj k l p=>by rcases A j k l with⟨_,e⟩|⟨_,e⟩;subst e;simp[Blk.live]at p;omega
 have g:∀(j a f:Nat) (t:Tok),(L++[.spare n sz])[j]?=some (.spare a f)->(if j=L.length then some (⟨n,sz,lc⟩:Tok)else E.tok j)=some t->(j=L.length/\a=n/\f=sz/\t=⟨n,sz,lc⟩)\/(j≠L.length/\L[j]?=some (.spare a f)/\E.tok j=some t):=λj a f t l o=>by grind
 refine⟨z,h.mem,λj k l=>?_,λj r=>h.fresh j (by simp at r;omega),λj k c l p K=>h.own j k c (b j k l p) p K,λj q k k' c c' l p H m=>h.inj j q k k' c c' (b j k l p) p (b q k' H m) m,
  λj r=>?_,λj a f t d r o hd=>?_,λj a f t d q k' c' r o hd s m B=>?_,λj a f t d q J I t' F r o hd s G u e=>?_,h.frame,h.size,h.os,h.tape,h.output,h.glob,h.gsz⟩
 rcases A j k l with⟨e,D⟩|⟨e,D⟩;subst e;subst D;exact⟨⟨n,sz,lc⟩,ah4,rfl,rfl,λk l=>(hr k l).1⟩;rcases p:k.live with _|_;refine bg.still (E:=E) (i:=j) p ?_ (λ_ _ _ _ _ _ _=>rfl) (h.blk j k D)
 grind
 exact bg.mono z p (h.blk j k D);simp at r;show(if j=L.length then some _ else E.tok j)=none;rw[if_neg ah3];exact h.tkfresh j ah3;rcases g j a f t r o with⟨rfl,rfl,rfl,rfl⟩|⟨_,v,y⟩;exact⟨(hr d hd).2.1,(hr d hd).2.2.1⟩;exact h.tkown j a f t d v y hd;have C:=b q k' s m;rcases g j a f t r o with⟨rfl,rfl,rfl,rfl⟩|⟨_,v,y⟩;exact(hr d hd).2.2.2.1 q k' c' C m B;exact h.tkloc j a f t d q k' c' v y hd C m B;rcases g j a f t r o with⟨rfl,rfl,rfl,rfl⟩|⟨N,v,y⟩<;>rcases g q J I t' s G with⟨rfl,rfl,rfl,rfl⟩|⟨n3,C,h4⟩;rfl;exact absurd e.symm ((hr d hd).2.2.2.2 q J I t' F n3 C h4 u);exact absurd e ((hr F u).2.2.2.2 j a f t d N v y hd);exact h.tkinj j a f t d q J I t' F v y hd C h4 u e
theorem Rel.tokwrite(h:Rel w0 S0 E L w){m:Nat}{t:Tok}{k:Loc}(C:L[i]?=some (.spare m sz))(r:E.tok i=some t)(q:t.loc=some k)(av:m<n){cs l:Array Value}{ty:TypeId}{fr:Nat×Nat}(Z:w.heap[k.blk]?=some (.cells cs ty fr))(hs:w'.heap.size=w.heap.size)(X:∀b,b≠k.blk->w'.heap[b]?=w.heap[b]?)(e1:w'.os=w.os)(e2:w'.tape=w.tape)(e3:w'.output=w.output)(y:w'.heap[k.blk]?=some (.cells l ty fr))(I:l.size=cs.size)(ap:∀o,o<m*sz\/n*sz<=o->l[o]?=cs[o]?):
  ∃E',E.le E'/\Rel w0 S0 E' (L.set i (.spare n sz)) w'/\E'.tok i=some ⟨n,sz,some k⟩/\(∀o,m*sz<=o->o<n*sz->E'.mem k.blk o=l[o]?):=by
 have an:m*sz<=n*sz:=agi _ ah3;have Q:i<L.length:=(aeY.1 C).1;obtain⟨t',q1,q2,q3,q4⟩:=h.blk i _ C;rw[r]at q1;cases q1;obtain⟨a2,a0,a1,q5,q6,q7⟩:=q4 k q;rw[Z]at q5;cases q5;have z:=h.tkown i m sz t k C r q;have M:Rel w0 S0 E L w':=by
  refine⟨λb o v B=>?_,λj p g=>?_,h.fresh,h.own,h.inj,h.tkfresh,h.tkown,h.tkloc,h.tkinj,λb R S=>?_,by rw[hs];exact h.size,e1.trans h.os,e2.trans h.tape,e3.trans h.output,h.glob,h.gsz.mod (λb ad ab ai R=>by by_cases e:b=k.blk;subst e;rw[Z]at R;cases R;exact⟨l,ty,fr,y,I⟩;exact⟨ad,ab,ai,by rw[X b e];exact R,rfl⟩)⟩
  have:=h.mem b o v B;by_cases e:b=k.blk;subst e;have a3:o<m*sz:=by grind
  simp only[World.cell?,Z,y]at this⊢;simp_all;simp only[World.cell?]at this⊢;simp_all;rcases s:p.live with _|_;by_cases e:j=i;subst e;rw[C]at g;cases g;exact⟨t,r,q2,q3,λk' D=>by rw[q]at D;cases D;exact⟨l,ty,fr,y,by rw[I];exact q6,q7⟩⟩;exact bg.still (E:=E) s rfl (λG d H K e2 f hd=>X d.blk λe'=>e (h.tkinj j H K G d i m sz t k (e2▸g) f hd C r q e')) (h.blk j p g);exact bg.worldL s (λd hd=>X d.blk (h.tkloc i m sz t k j p d C r q g s hd)) (h.blk j p g);rw[X b];exact h.frame b R S;intro e;subst e;rcases z.2 with F|F;exact S F;omega
 have O:E.le {E with mem:=λb o=>if b=k.blk/\m*sz<=o/\o<n*sz then w'.cell? ⟨b,o,none⟩else E.mem b o}:=by refine⟨λb o v B=>?_,λ_ _ x=>x,λ_ t h=>⟨t,h,.inl rfl⟩⟩;show(if b=k.blk/\m*sz<=o/\o<n*sz then w'.cell? ⟨b,o,none⟩else E.mem b o)=some v;split;exact M.mem b o v B;exact B
 have J:Yr w0 S0 E L w' i n sz (some k):=λk' D=>by cases D;refine⟨⟨l,ty,fr,y,by rw[I];exact q6,λo F P=>q7 o ah3 P⟩,λo F=>z.1 o ah3,z.2,λj p c g s u=>h.tkloc i m sz t k j p c C r q g s u,λj H K G p N g f al e=>N (h.tkinj j H K G p i m sz t k g f al C r q e)⟩
 obtain⟨V,a⟩:=M.settok ⟨m,sz,C⟩ (λG f=>by rw[r]at f;cases f;omega) J;have A:({E with tok:=λj=>if j=i then some ⟨n,sz,some k⟩else E.tok j}:Env).le {mem:=λb o=>if b=k.blk/\m*sz<=o/\o<n*sz then w'.cell? ⟨b,o,none⟩else E.mem b o,loc:=E.loc,tok:=λj=>if j=i then some ⟨n,sz,some k⟩else E.tok j}:=
  ⟨O.mem,λ_ _ x=>x,λ_ t h=>⟨t,h,.inl rfl⟩⟩
 have U:∀(j W Y:Nat) (t:Tok),(L.set i (.spare n sz))[j]?=some (.spare W Y)->(if j=i then some (⟨n,sz,some k⟩:Tok)else E.tok j)=some t->(j=i/\W=n/\Y=sz/\t=⟨n,sz,some k⟩)\/(j≠i/\L[j]?=some (.spare W Y)/\E.tok j=some t):=λj W Y t q r=>by rw[afC]at q;by_cases e:j=i;subst e;rw[if_pos rfl]at q r;rw[if_pos Q]at q;cases q;cases r;exact .inl ⟨rfl,rfl,rfl,rfl⟩;rw[if_neg (Ne.symm e)]at q;rw[if_neg e]at r;exact .inr ⟨e,q,r⟩
 refine⟨{mem:=λb o=>if b=k.blk/\m*sz<=o/\o<n*sz then w'.cell? ⟨b,o,none⟩else E.mem b o,loc:=E.loc,tok:=λj=>if j=i then some ⟨n,sz,some k⟩else E.tok j},V.trans A,?_,ah4,λo F P=>?_⟩;refine⟨λb o v B=>?_,λj p g=>?_,a.fresh,λj p c g s u=>⟨λo=>?_,(a.own j p c g s u).2⟩,a.inj,a.tkfresh,λj H s2 G d g f hd=>⟨λo T=>?_,(a.tkown j H s2 G d g f hd).2⟩,a.tkloc,a.tkinj,a.frame,a.size,a.os,a.tape,a.output,a.glob.mono A.mem,a.gsz⟩;have B:(if b=k.blk/\m*sz<=o/\o<n*sz then w'.cell? ⟨b,o,none⟩else E.mem b o)=some v:=B;split at B;exact B;exact M.mem b o v B;rcases s:p.live with _|_;exact bg.still (E:={E with tok:=λj=>if j=i then some ⟨n,sz,some k⟩else E.tok j}) (i:=j) s rfl (λ_ _ _ _ _ _ _=>rfl) (a.blk j p g);exact bg.mono A s (a.blk j p g);have N:=a.tkloc i n sz ⟨n,sz,some k⟩ k j p c (by simp[Q]) ah4 rfl g s u;show(if c.blk=k.blk/\m*sz<=o/\o<n*sz then w'.cell? ⟨c.blk,o,none⟩else E.mem c.blk o)=none;rw[if_neg λe=>N e.1];exact(a.own j p c g s u).1 o;show(if d.blk=k.blk/\m*sz<=o/\o<n*sz then w'.cell? ⟨d.blk,o,none⟩else E.mem d.blk o)=none;rcases U j H s2 G g f with⟨rfl,rfl,rfl,rfl⟩|⟨n1,F,P⟩;rw[if_neg ah3];exact(a.tkown _ _ _ _ d g f hd).1 o T;rw[if_neg λe=>n1 (h.tkinj j H s2 G d i m sz t k F P hd C r q e.1)];exact(a.tkown _ _ _ _ d g f hd).1 o T;show(if k.blk=k.blk/\m*sz<=o/\o<n*sz then w'.cell? ⟨k.blk,o,none⟩else E.mem k.blk o)=l[o]?;rw[if_pos ⟨rfl,F,P⟩];simp[World.cell?,y]
mutual
def AV.frz:AV->AV
 |.nilsl=>.sl [] 0 none
 |.sl l n _=>.sl (AV.frzL l) n none
 |.gsl l n _ _=>.sl (AV.frzL l) n none
 |.agg l=>.agg (AV.frzL l)
 |.tup l=>.tup (AV.frzL l)
 |.iface t a=>.iface t (AV.frz a)
 |a=>a
def AV.frzL:List AV->List AV
 |[]=>[]
 |a::l=>AV.frz a::AV.frzL l
end
theorem AV.frzL_eq:∀(l:List AV),AV.frzL l=l.map AV.frz
 |[]=>rfl
 |a::l=>by simp[AV.frzL,AV.frzL_eq l]
theorem AV.frzL_length(l:List AV):(AV.frzL l).length=l.length:=by simp[AV.frzL_eq]
mutual
theorem VR.frz{E:Env}:∀(a:AV) (v:Value),VR E a v->VR E a.frz v
 |.undef,_,_=>by simp[VR,AV.frz]
 |.bool _,_,r=>by simpa[VR,AV.frz]using r
 |.anyb,_,r=>by simpa[VR,AV.frz]using r
 |.int _ _,_,r=>by simpa[VR,AV.frz]using r
 |.str _,_,r=>by simpa[VR,AV.frz]using r
 |.nilptr,_,r=>by simpa[VR,AV.frz]using r
 |.gptr _ _,_,r=>by simpa[VR,AV.frz]using r
 |.ptr _ _,_,r=>by simpa[VR,AV.frz]using r
 |.iptr _ _,_,r=>by simpa[VR,AV.frz]using r
 |.nilsl,v,r=>by simp only[VR,AV.frz]at r⊢;subst r;exact⟨none,0,ah4⟩
 |.sl l n cap,v,r=>by simp only[VR,AV.frz]at r⊢;obtain⟨p,c,e,d,k,h4⟩:=r;exact⟨p,c,e,d,ah4,h4.imp (λ⟨g,j,a3⟩=>⟨g,j,by subst a3;rfl⟩) λ⟨b,o,f,h⟩=>⟨b,o,f,VRC.frz l b o h⟩⟩
 |.lsl _ _ _ _ _,_,r=>by simpa[VR,AV.frz]using r
 |.gsl l n i sz,v,r=>by simp only[VR,AV.frz]at r⊢;obtain⟨p,c,e,d,k,h4,_⟩:=r;exact⟨p,c,e,d,ah4,h4.imp (λ⟨g,j,a3⟩=>⟨g,j,by subst a3;rfl⟩) λ⟨b,o,f,h⟩=>⟨b,o,f,VRC.frz l b o h⟩⟩
 |.nilmap,_,r=>by simpa[VR,AV.frz]using r
 |.lmap _,_,r=>by simpa[VR,AV.frz]using r
 |.yld _,_,r=>by simpa[VR,AV.frz]using r
 |.func _ _,_,r=>by simpa[VR,AV.frz]using r
 |.nilfunc,_,r=>by simpa[VR,AV.frz]using r
 |.nilif,_,r=>by simpa[VR,AV.frz]using r
 |.iface t a,v,r=>by simp only[VR,AV.frz]at r⊢;obtain⟨x,e,d⟩:=r;exact⟨x,e,VR.frz a x d⟩
 |.agg l,v,r=>by simp only[VR,AV.frz]at r⊢;obtain⟨vs,e,d⟩:=r;exact⟨vs,e,VRL.frz l vs d⟩
 |.tup l,v,r=>by simp only[VR,AV.frz]at r⊢;obtain⟨vs,e,d⟩:=r;exact⟨vs,e,VRL.frz l vs d⟩
theorem VRL.frz{E:Env}:∀(l:List AV) (vs:List Value),VRL E l vs->VRL E (AV.frzL l) vs
 |[],_,r=>by simpa[VRL,AV.frzL]using r
 |a::l,vs,r=>by simp only[VRL,AV.frzL]at r⊢;obtain⟨x,xs,d,b,c⟩:=r;exact⟨x,xs,d,VR.frz a x b,VRL.frz l xs c⟩
theorem VRC.frz{E:Env}:∀(l:List AV) (b o:Nat),VRC E l b o->VRC E (AV.frzL l) b o
 |[],_,_,_=>by simp[VRC,AV.frzL]
 |a::l,b,o,r=>by simp only[VRC,AV.frzL]at r⊢;obtain⟨⟨x,e,c⟩,d⟩:=r;exact⟨⟨x,e,VR.frz a x c⟩,VRC.frz l b (o+1) d⟩
end
inductive Opd where
 |tmp (t:Nat)
 |av (a:AV)
 deriving Inhabited
def RO:Value->Option AV
 |.bool b=>some (.bool b)
 |.int k n=>some (.int k n)
 |.string s=>some (.str s.data.toList)
 |.pointer none=>some .nilptr
 |.slice none 0 0=>some (.sl [] 0 (some 0))
 |.map none=>some .nilmap
 |.nilFunc=>some .nilfunc
 |.nilIface=>some .nilif
 |.func (.func f) ⟨[]⟩ ⟨[]⟩=>some (.func f [])
 |_=>none
def RN:List Value->Option (List AV)
 |[]=>some []
 | v::vs=>match RO v,RN vs with
   |some a,some l=>some (a::l)
   |_,_=>none
def abL:Value->Option AV
 |.agg ⟨vs⟩=>(RN vs).map .agg
 |.tuple ⟨[]⟩=>some (.tup [])
 |v=>RO v
def adt:Value->Option (List AV)
 |.agg ⟨vs⟩=>RN vs
 |v=>(RO v).map ([·])
theorem vU{a:AV}(h:RO v=some a):VR E a v/\a.one=true:=by
 unfold RO at h;split at h<;>simp at h<;>subst h<;>simp[VR,VRL,AV.one]
 grind
theorem Gu{E:Env}:∀{vs:List Value}{l:List AV},RN vs=some l->VRL E l vs/\∀a∈l,AV.one a=true
 |[],l,h=>by simp[RN]at h;subst h;simp[VRL]
 |v::vs,l,h=>by simp only[RN]at h;split at h<;>simp at h;rename_i a m b c;subst h;have:=Gu (E:=E) c;exact⟨⟨v,vs,rfl,(vU b).1,this.1⟩,by simpa using⟨(vU (E:=E) b).2,this.2⟩⟩
theorem P3{a:AV}(h:abL v=some a):VR E a v:=by unfold abL at h;split at h;simp only[afr]at h;obtain⟨l,b,rfl⟩:=h;exact⟨_,rfl,(Gu b).1⟩;simp at h;subst h;simp[VR,VRL];exact(vU h).1
theorem Vm(h:adt v=some l):VRL E l v.cells.toList/\∀a∈l,AV.one a=true:=by
 unfold adt at h;split at h;exact Gu h;simp only[afr]at h;obtain⟨a,b,rfl⟩:=h;have:=vU (E:=E) b;have c:v.cells=#[v]:=by cases v<;>first|rfl|simp[RO]at b
 rw[c];exact⟨⟨v,[],rfl,this.1,rfl⟩,by simpa using this.2⟩
def aZ:Operand->Option Opd
 |.tmp t=>some (.tmp t)
 |.const v=>(abL v).map .av
 |.func f=>some (.av (.func f []))
 |.global g=>some (.av (.gptr g 0))
def evX(T:Tm):Opd->Option AV
 |.tmp t=>ar T t
 |.av a=>some a
theorem ah{x:Operand}{y:Opd}{v:AV}(h:aZ x=some y)(b:evX T y=some v)(c:TR E T a):VR E v (a.eval x):=by unfold aZ at h;split at h<;>simp at h;subst h;exact c _ _ b;obtain⟨u,d,rfl⟩:=h;simp[evX]at b;subst b;exact P3 d;subst h;simp[evX]at b;subst b;simp[VR,VRL,Act.eval];subst h;simp[evX]at b;subst b;rfl
def AV.cells?:AV->Option (List AV)
 |.agg l=>some l
 |.undef|.tup _=>none
 |a=>some [a]
theorem qN{a:AV}(h:a.cells?=some l)(c:VR E a v):VRL E l v.cells.toList:=by
 rcases ho:a.one with _|_;cases a<;>simp[AV.one]at ho<;>simp[AV.cells?]at h;subst h;obtain⟨vs,rfl,d⟩:=c;exact d;have e:l=[a]:=by cases a<;>simp[AV.one]at ho<;>simp[AV.cells?]at h<;>exact h.symm
 subst e;have b:=c.one ho;have:v.cells=#[v]:=by cases v<;>first|rfl|simp[Value.one]at b
 rw[this];exact⟨v,[],rfl,c,rfl⟩
def bS(l:List AV)(off:Nat)(vals:List AV):List AV:=l.take off++vals++l.drop (off+vals.length)
def deg:AV->AV
 | .gptr g off=>match zf g with
   |some l=>.iptr l off
   |none=>.gptr g off
 |a=>a
theorem Yd(h:Rel w0 S0 E L w){a:AV}(hv:VR E a v):VR E (deg a) v:=by
 cases a
 case gptr g off =>
  simp only[deg];split
  .rename_i l hl;subst hv;exact⟨g,0,ah4,h.glob.env (VO hl)⟩
  omega
 all_goals exact hv
def evD(T:Tm)(x:Opd):Option AV:=(evX T x).map deg
theorem kB(h:Rel w0 S0 E L w){x:Operand}{y:Opd}{v:AV}(d:aZ x=some y)(b:evD T y=some v)(c:TR E T a):VR E v (a.eval x):=by simp only[evD,afr]at b;obtain⟨u,e,rfl⟩:=b;exact Yd h (ah d e c)
def row(L:List Blk):AV->Option (List AV×Nat)
 | .ptr i off=>match L[i]? with
   |some (.cells l)=>some (l,off)
   |some (.bytes l)=>some (l,off)
   |_=>none
 |.iptr l off=>some (l,off)
 |_=>none
theorem MD(h:Rel w0 S0 E L w){p:AV}(hr:row L p=some (l,off))(n:VR E p v):
  ∃b o,v=.pointer (some ⟨b,o+off,none⟩)/\∀(j:Nat) (a:AV),l[j]?=some a->∃x,w.cell? ⟨b,o+j,none⟩=some x/\VR E a x:=by
 unfold row at hr;split at hr;rename_i i s;split at hr;rename_i t k;simp at hr;obtain⟨rfl,rfl⟩:=hr;obtain⟨c,f,rfl⟩:=n;obtain⟨c',cs,ty,fr,d,g,u,h4,r,y⟩:=h.blk i _ k;rw[f]at d;cases d;refine⟨c.blk,c.off,rfl,λj a e=>?_⟩;obtain⟨x,m,q⟩:=r j a e;exact⟨x,by simp[World.cell?,g,m],q⟩;rename_i t k;simp at hr;obtain⟨rfl,rfl⟩:=hr;obtain⟨c,f,rfl⟩:=n;obtain⟨c',cs,ty,fr,d,g,u,h4,r,y⟩:=h.blk i _ k;rw[f]at d;cases d;refine⟨c.blk,c.off,rfl,λj a e=>?_⟩;obtain⟨x,m,q⟩:=r j a e;exact⟨x,by simp[World.cell?,g,m],q⟩;simp_all;simp at hr;obtain⟨rfl,rfl⟩:=hr;obtain⟨b,o,rfl,f⟩:=n;refine⟨b,o,rfl,λj a e=>?_⟩;obtain⟨x,d,g⟩:=f.get e;exact⟨x,h.mem _ _ _ d,g⟩;simp_all
theorem Addr.add_mk(b o n:Nat):(Addr.mk b o none).add n=⟨b,o+n,none⟩:=by unfold Addr.add;simp
theorem QE{E:Env}{w:World}{b o:Nat}:∀{l:List AV},(∀(j:Nat) (a:AV),l[j]?=some a->∃x,w.cell? ⟨b,o+j,none⟩=some x/\VR E a x) ->
  ∃cs:List Value,VRL E l cs/\∀(j:Nat) (v:Value),cs[j]?=some v->w.cell? ⟨b,o+j,none⟩=some v
 |[],_=>⟨[],by simp[VRL],ah4⟩
 | a::l,h=>by
   obtain⟨x,f,c⟩:=h 0 a ah4;obtain⟨cs,e,h4⟩:=QE (b:=b) (o:=o+1) (l:=l) λj a d=>by have:=h (j+1) a (by simpa using d);rwa[show o+(j+1)=o+1+j by omega]at this
   refine⟨x::cs,⟨x,cs,rfl,c,e⟩,λj v g=>?_⟩
   grind
theorem iP{o:Nat}(h:∀(j:Nat) (a:AV),l[j]?=some a->∃x,w.cell? ⟨b,o+j,none⟩=some x/\VR E a x):
  ∃cs:List Value,VRL E l cs/\(loadCells ⟨b,o,none⟩ l.length).run P w=.ok cs.toArray w:=by
 obtain⟨cs,c,d⟩:=QE h;refine⟨cs,c,?_⟩;rw[<- c.length];exact run_loadCells_list w _ cs λj v e=>by rw[Addr.add_mk];exact d j v e
theorem ju{P:Program}{b:Nat}{ty:TypeId}{fr:Nat×Nat}:∀(vs:List Value) (w:World) (cs:Array Value) (o i:Nat),w.heap[b]?=some (.cells cs ty fr)->(∀v∈vs,Value.one v=true) ->
  o+i+vs.length<=cs.size->(∀k,o+i<=k->k<o+i+vs.length->¬(fr.1<=k/\k<fr.2)) ->
  ∃w' a,(storeCells ⟨b,o,none⟩ vs i).run P w=.ok () w'/\w'.heap.size=w.heap.size/\(∀k,k≠b->w'.heap[k]?=w.heap[k]?)/\w'.os=w.os/\w'.tape=w.tape/\w'.output=w.output /\
   w'.heap[b]?=some (.cells a ty fr)/\a.size=cs.size/\∀k,a[k]?=if o+i<=k/\k<o+i+vs.length then vs[k-(o+i)]? else cs[k]?
 |[],w,cs,o,i,hb,_,_,_=>⟨w,cs,by simp[storeCells],rfl,λ_ _=>rfl,rfl,rfl,rfl,hb,rfl,λk=>by rw[if_neg ah4]⟩
 | v::vs,w,cs,o,i,hb,hone,hlen,hfr=>by
   simp only[afg]at hlen hfr;have c:w.cell? ⟨b,o+i,none⟩=some cs[o+i]:=(by simp[World.cell?,hb]);have f:w.frozen? ⟨b,o+i,none⟩=false:=by have:=hfr (o+i) (ae0 _) ah3;simp[World.frozen?,hb];omega
   have n:v.oneCell'=true:=by cases v<;>simp_all[Value.one,Value.oneCell']
   have d:(store ((⟨b,o,none⟩:Addr).add i) v).run P w=.ok () (w.setCell ⟨b,o+i,none⟩ v):=by rw[run_store P w _ v .plain n,Addr.add_mk,c];simp[f]
   have e:(w.setCell ⟨b,o+i,none⟩ v).heap[b]?=some (.cells (cs.setIfInBounds (o+i) v) ty fr):=by simp[World.setCell,agK,hb]
   obtain⟨w',a,y,s,p,l,r,h,j,m,u⟩:=ju (P:=P) vs (w.setCell ⟨b,o+i,none⟩ v) (cs.setIfInBounds (o+i) v) o (i+1) e (λx q=>hone x (by simp[q])) (by simp;omega) (λk t z=>hfr k ah3 ah3);refine⟨w',a,?_,?_,λk g=>?_,l,r,h,j,by simpa using m,λk=>?_⟩
   .simp only[storeCells,ae8,d,ae9];omega
   .simp[*]
   .rw[p k g];simp only[World.setCell,agK]
    grind
   grind
theorem Jp{k:Nat}(h:off+vals.length<=l.length):(bS l off vals)[k]?=if off<=k/\k<off+vals.length then vals[k-off]? else l[k]?:=by
 simp only[bS,afa]
 grind
theorem mQ(h:off+vals.length<=l.length):(bS l off vals).length=l.length:=by simp[bS];omega
theorem J9(h:Rel w0 S0 E L w)(q:L[i]?=some (.cells l))(m:E.loc i=some c){vs:List Value}(o:VRL E vals vs)(e:∀a∈vals,AV.one a=true)(b:off+vals.length<=l.length):
  ∃w',(storeCells ⟨c.blk,c.off+off,none⟩ vs).run P w=.ok () w'/\Rel w0 S0 E (L.set i (.cells (bS l off vals))) w':=by
 obtain⟨c',cs,ty,fr,r,z,N,h4,I,t⟩:=h.blk i _ q;rw[m]at r;cases r;have J:=o.length;obtain⟨w',n,G,v,D,C,u,A,B,K,M⟩:=ju (P:=P) vs w cs (c.off+off) 0 z (λx F=>by obtain⟨j,s⟩:=agD.1 F;have f:j<vals.length:=(by have:=(aeY.1 s).1;omega);obtain⟨y,d,p⟩:=o.get (afn f);rw[s]at d;cases d;exact p.one (e _ (age f))) ah3 (λk d p=>t k ah3 ah3)
 refine⟨w',G,h.turn q rfl m v D C u A ?_ ah4⟩;refine⟨c,n,ty,fr,m,B,ah3,by rw[mQ b];exact h4,λj a g=>?_,t⟩;rw[Jp b]at g;by_cases d:off<=j/\j<off+vals.length;rw[if_pos d]at g;obtain⟨x,p,H⟩:=o.get g
 grind
 grind
theorem Xh(h:Rel w0 S0 E L w)(q:L[i]?=some (.bytes l))(m:E.loc i=some c){vs:List Value}(o:VRL E vals vs)(e:∀a∈vals,AV.one a=true)(b:off+vals.length<=l.length):
  ∃w',(storeCells ⟨c.blk,c.off+off,none⟩ vs).run P w=.ok () w'/\Rel w0 S0 E (L.set i (.bytes (bS l off vals))) w':=by
 obtain⟨c',cs,ty,fr,r,z,N,h4,J,t⟩:=h.blk i _ q;rw[m]at r;cases r;have K:=o.length;obtain⟨w',n,H,v,D,C,u,A,B,M,G⟩:=ju (P:=P) vs w cs (c.off+off) 0 z (λx F=>by obtain⟨j,s⟩:=agD.1 F;have f:j<vals.length:=(by have:=(aeY.1 s).1;omega);obtain⟨y,d,p⟩:=o.get (afn f);rw[s]at d;cases d;exact p.one (e _ (age f))) ah3 (λk d p=>t k ah3 ah3)
 refine⟨w',H,h.turn q rfl m v D C u A ?_ ah4⟩;refine⟨c,n,ty,fr,m,B,ah3,by rw[mQ b];exact h4,λj a g=>?_,t⟩;rw[Jp b]at g;rw[G];by_cases d:off<=j/\j<off+vals.length;rw[if_pos d]at g;rw[if_pos ah3];obtain⟨x,p,I⟩:=o.get g
 grind
 grind
inductive EqK where
 |bool|ptr|slice|map|func|iface
 deriving DecidableEq,Inhabited
inductive zB where
 |int|str|bool
 deriving DecidableEq,Inhabited
inductive lG where
 |int|str|bool
 |st (ks:List zB)
 deriving DecidableEq,Inhabited
inductive LOp where
 |mv (x:Opd)
 |pick (c a b:Opd)
 |alloc (z:List AV)
 |box (x:Opd)
 |build (z:List AV) (ps:List (Nat×Nat×Opd))
 |bslice (own:Bool) (sz n:Nat) (z:List AV) (ps:List (Nat×Nat×Opd))
 |load (agg:Bool) (sz:Nat) (a:Opd)
 |store (sz:Nat) (a x:Opd)
 |nilchk (x:Opd)
 |bin (op:BinOp) (x y:Opd)
 |eqk (neg:Bool) (k:EqK) (x y:Opd)
 |eq2 (neg:Bool) (x y:Opd)
 |slnil (neg:Bool) (x:Opd)
 |un (op:UnOp) (x:Opd)
 |conv (k:IntKind) (x:Opd)
 |sconv (x:Opd)
 |b2s (x:Opd)
 |s2b (x:Opd)
 |s2bO (x:Opd)
 |s2bG (x:Opd)
 |rangeS (x:Opd)
 |nextS (x:Opd)
 |mkif (t:TypeId) (x:Opd)
 |mkfn (f:FuncId) (caps:List Opd)
 |mkslice (sz bytes:Nat) (z:List AV) (l c:Opd)
 |slS (x:Opd) (lo hi:Option Opd)
 |slV (sz:Nat) (x:Opd) (lo hi mx:Option Opd)
 |slA (n sz:Nat) (x:Opd) (lo hi:Option Opd)
 |faddr (off:Nat) (x:Opd)
 |field (agg:Bool) (off sz:Nat) (x:Opd)
 |iaddr (sz:Nat) (x i:Opd)
 |iaddrA (n sz:Nat) (x i:Opd)
 |idxS (x i:Opd)
 |extract (x:Opd) (i:Nat)
 |len (str:Bool) (x:Opd)
 |cap (x:Opd)
 |bad
 |appz (sz bytes:Nat) (z:List AV) (a n:Opd)
 |app (own:Nat) (sz bytes:Nat) (z:List AV) (a b:Opd)
 |copy (sz:Nat) (a b:Opd)
 |clear (sz:Nat) (z:List AV) (x:Opd)
 |minmax (mx:Bool) (xs:List Opd)
 |mkmap
 |mget (kd:lG) (ok:Bool) (z:AV) (m k:Opd)
 |mset (kd:lG) (m k v:Opd)
 |mdel (kd:lG) (m k:Opd)
 |mclr (m:Opd)
 |mlen (m:Opd)
 |mrange (x:Opd)
 |mnext (x:Opd)
 |mentry (x:Opd)
 |call (f:FuncId) (xs:List Opd)
 |callv (f:Opd) (xs:List Opd)
 deriving Inhabited
def nS(l:List Operand):Option (List Opd):=l.mapM aZ
def vT:Option Operand->Option (Option Opd)
 |none=>some none
 |some x=>(aZ x).map some
def bJ(P:Program)(t:TypeId):Option Nat:=(P.info? t).map (·.size)
def QO(P:Program)(t:TypeId):Option Nat:=(P.info? t).map (·.bytes)
def zOf(P:Program)(t:TypeId):Option (List AV):=((P.info? t).bind (·.zero)).bind adt
def lr(P:Program)(t:TypeId):Option Bool :=
 match P.underlying t with
 |some (.struct _)|some (.array _ _)=>some true
 |some _=>some false
 |none=>none
def di(z:List AV):Nat->List AV
 |0=>[]
 |n+1=>z++di z n
def LR(P:Program)(d:TypeDesc)(i:Nat):Option (Nat×Nat):=
 match d with
 | .struct fs=>match fs.toList[i]? with
   |some f=>(bJ P f.type).map λs=>(f.offset,s)
   |none=>none
 |.array _ e|.slice e=>(bJ P e).map λs=>(i*s,s)
 |_=>none
def fT(P:Program)(d:TypeDesc):List (Nat×Operand)->Option (List (Nat×Nat×Opd))
 |[]=>some []
 | (i,x)::l=>match LR P d i,aZ x,fT P d l with
   |some (o,s),some y,some m=>some ((o,s,y)::m)
   |_,_,_=>none
def zb(P:Program)(own:Nat)(s d:TypeId)(x:Opd):Option LOp :=
 match P.underlying s,P.underlying d with
 |some (.int _),some (.int k)=>some (.conv k x)
 |some .string,some .string=>some (.sconv x)
 | some (.slice e),some .string=>match P.underlying e with
   |some (.int .u8)=>some (.b2s x)
   |_=>none
 | some .string,some (.slice e)=>match P.underlying e with
   |some (.int .u8)=>if own=2 then some (.s2bO x)else if own=5 then some (.s2bG x)else some (.s2b x)
   |_=>none
 |_,_=>none
def lq:Operand->Bool
 |.const _=>true
 |_=>false
def Qb:Operand->Bool
 |.const (.slice none 0 0)=>true
 |_=>false
def Vn(P:Program)(t:TypeId):Option zB :=
 match P.underlying t with
 |some (.int _)=>some .int
 |some .string=>some .str
 |some .bool=>some .bool
 |_=>none
def TY(P:Program):Nat->List Field->Option (List zB)
 |_,[]=>some []
 | i,f::fs=>if f.offset=i/\f.name ≠ "_" then match Vn P f.type,TY P (i+1) fs with
   |some k,some ks=>some (k::ks)
   |_,_=>none
   else none
def fH(P:Program)(kt:TypeId):Option lG :=
 match P.underlying kt with
 |some (.int _)=>some .int
 |some .string=>some .str
 |some .bool=>some .bool
 |some (.struct fs)=>if P.stoodInHeld kt=false then(TY P 0 fs.toList).map .st else none
 |_=>none
def ZH(P:Program)(t:TypeId):Bool:=match fH P t with
 |some (.st [.str,.str]) => !P.eqGuardType P.depth t
 |_=>false
def Jz(P:Program)(op:BinOp)(t:TypeId)(x y:Operand):Option LOp :=
 match aZ x,aZ y with
 | some x',some y'=>match P.underlying t with
   |some (.int _)|some .string=>some (.bin op x' y')
   | some d=>match op,d with
     |.eql,.bool=>some (.eqk false .bool x' y')
     |.neq,.bool=>some (.eqk true .bool x' y')
     |.eql,.pointer _=>some (.eqk false .ptr x' y')
     |.neq,.pointer _=>some (.eqk true .ptr x' y')
     |.eql,.slice _=>if Qb y=true then some (.slnil false x')else none
     |.neq,.slice _=>if Qb y=true then some (.slnil true x')else none
     |.eql,.map _ _=>some (.eqk false .map x' y')
     |.neq,.map _ _=>some (.eqk true .map x' y')
     |.eql,.func _ _ _=>some (.eqk false .func x' y')
     |.neq,.func _ _ _=>some (.eqk true .func x' y')
     |.eql,.interface _=>if lq x ||lq y then some (.eqk false .iface x' y')else none
     |.neq,.interface _=>if lq x ||lq y then some (.eqk true .iface x' y')else none
     |.eql,.struct _=>if ZH P t=true then some (.eq2 false x' y')else none
     |.neq,.struct _=>if ZH P t=true then some (.eq2 true x' y')else none
     |_,_=>none
   |none=>none
 |_,_=>none
def adp:zB->AV->Bool
 |.int,.int _ _=>true
 |.str,.str _=>true
 |.bool,.bool _=>true
 |_,_=>false
def sJ:List zB->List AV->Bool
 |[],[]=>true
 |k::ks,a::l=>adp k a&&sJ ks l
 |_,_=>false
def aU:lG->AV->Bool
 |.int,.int _ _=>true
 |.str,.str _=>true
 |.bool,.bool _=>true
 |.st ks,.agg l=>sJ ks l
 |_,_=>false
def P7:AV->AV->Option Bool
 |.int k a,.int j b=>if k=j then some (decide (a=b))else none
 |.str a,.str b=>some (decide (a=b))
 |.bool a,.bool b=>some (decide (a=b))
 |_,_=>none
def D9:List AV->List AV->Option Bool
 |[],[]=>some true
 | a::l,b::m=>match P7 a b with
   |some true=>D9 l m
   |r=>r
 |_,_=>none
def yF:AV->AV->Option Bool
 |.int k a,.int j b=>if k=j then some (decide (a=b))else none
 |.str a,.str b=>some (decide (a=b))
 |.bool a,.bool b=>some (decide (a=b))
 |.agg l,.agg m=>D9 l m
 |_,_=>none
def bH(k:AV):List (AV×AV×Nat)->Nat->Option (Option (Nat×AV))
 |[],_=>some none
 | (q,x,_)::l,i=>match yF k q with
   |some true=>some (some (i,x))
   |some false=>bH k l (i+1)
   |none=>none
def Vk(k v:AV):List (AV×AV×Nat)->Nat->List (AV×AV×Nat)
 |[],_=>[]
 |(_,_,b)::l,0=>(k,v,b)::l
 |e::l,j+1=>e::Vk k v l j
def Zz(es:List (AV×AV×Nat))(since:Nat)(seen:List Nat)(last:Nat):Option (Option (AV×AV×Nat)):=
 if(!seen.isEmpty && !es.isEmpty&&es.all λe=>decide (last<=e.2.2))=true then none else
 match(es.filter λe => !seen.contains e.2.2).filter (λe=>decide (e.2.2<since)),(es.filter λe => !seen.contains e.2.2).filter (λe=>decide (since<=e.2.2))with
 |[],[]=>some none
 |[e],[]=>some (some e)
 |_,_=>none
def RK(L:List Blk)(i j since:Nat)(seen:List Nat)(ck:Nat):Option (AV×AV×Nat)->List Blk
 |none=>L
 |some e=>L.set i (.miter (some j) since (seen++[e.2.2]) ck)
def LV:Option (AV×AV×Nat)->AV
 |none=>.tup [.bool false]
 |some e=>.tup [.bool true,e.1,e.2.1]
def mat(es:List (AV×AV×Nat))(ck:Nat)(seen:List Nat)(stepped:Nat):Option (AV×AV×Nat):=
 match seen.getLast? with
 |some b=>if ck=stepped then es.find? (λe=>Nat.beq e.2.2 b)else none
 |none=>none
def YB(P:Program)(t:TypeId):Option AV:=((P.info? t).bind (·.zero)).bind abL
def cw(P:Program)(own:Nat)(b:Builtin)(ts:List TypeId)(xs:List Opd):Option LOp :=
 match b,ts,xs with
 | .len,[t],[x]=>match P.underlying t with
   |some .string=>some (.len true x)
   |some (.slice _)=>some (.len false x)
   |some (.array n _)=>some (.mv (.av (.int .i64 n)))
   |some (.map _ _)=>some (.mlen x)
   |_=>none
 | .cap,[t],[x]=>match P.underlying t with
   |some (.slice _)=>some (.cap x)
   |some (.array n _)=>some (.mv (.av (.int .i64 n)))
   |_=>none
 | .append,[t,t'],[x,y]=>match P.underlying t,P.underlying t' with
   | some (.slice e),some (.slice _)|some (.slice e),some .string=>match bJ P e,QO P e,zOf P e with
     |some s,some by',some z=>if z.length=s then some (.app own s by' z x y)else none
     |_,_,_=>none
   | some (.slice e),some (.int _)=>match bJ P e,QO P e,zOf P e with
     |some s,some by',some z=>if z.length=s then some (.appz s by' z x y)else none
     |_,_,_=>none
   |_,_=>none
 | .copy,[t,_],[x,y]=>match P.underlying t with
   |some (.slice e)=>(bJ P e).map λs=>.copy s x y
   |_=>none
 | .clear,[t],[x]=>match P.underlying t with
   | some (.slice e)=>match bJ P e,zOf P e with
     |some s,some z=>if z.length=s then some (.clear s z x)else none
     |_,_=>none
   |some (.map _ _)=>some (.mclr x)
   |_=>none
 | .delete,[t,_],[m,k]=>match P.underlying t with
   |some (.map kt _)=>(fH P kt).map λkd=>.mdel kd m k
   |_=>none
 |.max,_,[x,y]=>some (.minmax true [x,y])
 |.min,_,[x,y]=>some (.minmax false [x,y])
 |_,_,_=>none
def kA(P:Program)(own:Nat)(op:Op):Option LOp :=
 match op with
 |.move x|.assign x=>(aZ x).map .mv
 | .pick c a b=>match aZ c,aZ a,aZ b with
   |some c,some a,some b=>some (.pick c a b)
   |_,_,_=>none
 |.alloc t=>(zOf P t).map .alloc
 |.box _ x=>(aZ x).map .box
 | .build t ps=>match P.underlying t,zOf P t with
   | some d,some z=>match d with
     |.struct fs=>if fs.toList.all (λf=>(bJ P f.type).isSome)=true then(fT P d ps.toList).map (.build z)else none
     |.array _ e=>if(bJ P e).isSome=true then(fT P d ps.toList).map (.build z)else none
     |_=>none
   |_,_=>none
 | .buildSlice t n ps=>match P.underlying t with
   | some (.slice e)=>match bJ P e,zOf P e,fT P (.slice e) ps.toList with
     |some s,some z,some m=>if z.length=s/\n*s<=2^24 then some (.bslice (own == 2) s n (di z n) m)else none
     |_,_,_=>none
   |_=>none
 | .load t x=>match lr P t,bJ P t,aZ x with
   |some g,some s,some y=>some (.load g s y)
   |_,_,_=>none
 | .store t a x=>match bJ P t,aZ a,aZ x with
   |some s,some a,some x=>some (.store s a x)
   |_,_,_=>none
 |.nilCheck x=>(aZ x).map .nilchk
 |.binOp op t x y _=>Jz P op t x y
 |.unOp op _ x=>(aZ x).map (.un op)
 |.convert s d x=>(aZ x).bind (zb P own s d)
 | .makeInterface t x=>match P.underlying t with
   |some (.interface _)|none=>none
   |some _=>(aZ x).map (.mkif t)
 | .makeFunc fn first caps=>match fn with
   |.func f=>if first.toList.isEmpty=true then(nS caps.toList).map (.mkfn f)else none
   |_=>none
 | .makeSlice t l c=>match P.underlying t with
   | some (.slice e)=>match bJ P e,QO P e,zOf P e,aZ l,aZ c with
     |some s,some b,some z,some l,some c=>if z.length=s/\0<s then some (.mkslice s b z l c)else none
     |_,_,_,_,_=>none
   |_=>none
 | .slice t x lo hi mx=>match P.underlying t,aZ x,vT lo,vT hi,vT mx with
   |some .string,some x,some lo,some hi,some none=>some (.slS x lo hi)
   |some (.slice e),some x,some lo,some hi,some mx=>(bJ P e).map λs=>.slV s x lo hi mx
   |some (.array n e),some x,some lo,some hi,some none=>(bJ P e).map λs=>.slA n s x lo hi
   |_,_,_,_,_=>none
 | .fieldAddr t x f=>match P.underlying t,aZ x with
   | some (.struct fs),some x=>match fs.toList[f]? with
     |some fd=>if(bJ P fd.type).getD 0=0 then none else some (.faddr fd.offset x)
     |none=>none
   |_,_=>none
 | .field t x f=>match P.underlying t,aZ x with
   | some (.struct fs),some x=>match fs.toList[f]? with
     | some fd=>match lr P fd.type,bJ P fd.type with
       |some g,some s=>some (.field g fd.offset s x)
       |_,_=>none
     |none=>none
   |_,_=>none
 | .indexAddr t x i=>match P.underlying t,aZ x,aZ i with
   |some (.slice e),some x,some i=>(bJ P e).map λs=>.iaddr s x i
   |some (.array n e),some x,some i=>(bJ P e).map λs=>.iaddrA n s x i
   |_,_,_=>none
 | .index t x i=>match P.underlying t,aZ x,aZ i with
   |some .string,some x,some i=>some (.idxS x i)
   |_,_,_=>none
 |.extract x i=>(aZ x).map (.extract · i)
 | .makeMap t none=>match P.underlying t with
   |some (.map _ _)=>some .mkmap
   |_=>none
 | .lookup t m k ok=>match P.underlying t,aZ m,aZ k with
   | some (.map kt et),some m,some k=>match fH P kt,YB P et with
     |some kd,some z=>some (.mget kd ok z m k)
     |_,_=>none
   |_,_,_=>none
 | .mapUpdate t m k v=>match P.underlying t,aZ m,aZ k,aZ v with
   |some (.map kt _),some m,some k,some v=>(fH P kt).map λkd=>.mset kd m k v
   |_,_,_,_=>none
 | .range t x=>match P.underlying t with
   |some .string=>(aZ x).map .rangeS
   |some (.map _ _)=>(aZ x).map .mrange
   |_=>none
 |.next x isS=>if isS=true then(aZ x).map .nextS else(aZ x).map .mnext
 |.entry x=>(aZ x).map .mentry
 | .call c=>match nS c.args.toList with
   | some xs=>match c.callee with
     |.value (.func f)=>some (.call f xs)
     |.value x=>(aZ x).map (.callv · xs)
     |.builtin b=>cw P own b c.argTypes.toList xs
     |_=>none
   |none=>none
 |_=>none
def iR(T:Tm):List Opd->Option (List AV)
 |[]=>some []
 | x::l=>match evX T x,iR T l with
   |some a,some m=>some (a::m)
   |_,_=>none
def lv(T:Tm)(z:List AV):List (Nat×Nat×Opd)->Option (List AV)
 |[]=>some z
 | (o,s,x)::l=>match (evX T x).bind AV.cells? with
   |some vals=>if vals.length=s/\o+s<=z.length then lv T (bS z o vals) l else none
   |none=>none
def ach(op:BinOp)(k:IntKind)(a b:Int):Option (Prop×AV):=
 match op with
 |.add=>some (True,.int k (k.wrap (a+b)))
 |.sub=>some (True,.int k (k.wrap (a-b)))
 |.mul=>some (True,.int k (k.wrap (a*b)))
 |.quo=>some (b≠0,.int k (k.wrap (a.tdiv b)))
 |.rem=>some (b≠0,.int k (a.tmod b))
 |.and=>some (True,.int k (k.wrap (BitVec.ofInt k.bits a &&& BitVec.ofInt k.bits b).toNat))
 |.or=>some (True,.int k (k.wrap (BitVec.ofInt k.bits a |||BitVec.ofInt k.bits b).toNat))
 |.xor=>some (True,.int k (k.wrap (BitVec.ofInt k.bits a ^^^ BitVec.ofInt k.bits b).toNat))
 |.andNot=>some (True,.int k (k.wrap (BitVec.ofInt k.bits a &&& ~~~BitVec.ofInt k.bits b).toNat))
 |.eql=>some (True,.bool (decide (a=b)))
 |.neq=>some (True,.bool (!decide (a=b)))
 |.lss=>some (True,.bool (decide (a<b)))
 |.leq=>some (True,.bool (decide (a<=b)))
 |.gtr=>some (True,.bool (decide (b<a)))
 |.geq=>some (True,.bool (decide (b<=a)))
 |_=>none
def acg(op:BinOp)(x y:List UInt8):Option (Prop×AV):=
 match op with
 |.add=>some (((x.length+y.length:Nat):Int)<=9223372036854775807,.str (x++y))
 |.eql=>some (True,.bool (decide (x=y)))
 |.neq=>some (True,.bool (!decide (x=y)))
 |.lss=>some (True,.bool (Op.bytesLess x y))
 |.leq=>some (True,.bool (Op.bytesLess x y ||decide (x=y)))
 |.gtr=>some (True,.bool (!(Op.bytesLess x y ||decide (x=y))))
 |.geq=>some (True,.bool (!Op.bytesLess x y))
 |_=>none
def bin(op:BinOp)(x y:AV):Option (Prop×AV):=
 match op,x,y with
 |.shl,.int k a,.int _ b=>some (0<=b,.int k (k.wrap (a*2^(min b.toNat k.bits))))
 |.shr,.int k a,.int _ b=>some (0<=b,.int k (a.fdiv (2^(min b.toNat k.bits))))
 |op,.int k a,.int k' b=>if k=k' then ach op k a b else none
 |op,.str a,.str b=>acg op a b
 |_,_,_=>none
def eqA(k:EqK)(x y:AV):Option Bool :=
 match k,x,y with
 |.bool,.bool a,.bool b=>some (decide (a=b))
 |.ptr,.nilptr,.nilptr=>some true
 |.ptr,.nilptr,.ptr _ _|.ptr,.nilptr,.iptr _ _|.ptr,.ptr _ _,.nilptr|.ptr,.iptr _ _,.nilptr=>some false
 |.slice,.nilsl,.nilsl=>some true
 |.slice,.nilsl,.lsl _ _ _ _ _|.slice,.lsl _ _ _ _ _,.nilsl=>some false
 |.map,.nilmap,.nilmap=>some true
 |.map,.nilmap,.lmap _|.map,.lmap _,.nilmap=>some false
 |.func,.nilfunc,.nilfunc=>some true
 |.func,.nilfunc,.func _ _|.func,.func _ _,.nilfunc=>some false
 |.iface,.nilif,.nilif=>some true
 |.iface,.nilif,.iface _ _|.iface,.iface _ _,.nilif=>some false
 |_,_,_=>none
def un(op:UnOp)(x:AV):Option AV :=
 match op,x with
 |.neg,.int k n=>some (.int k (k.wrap (0-n)))
 |.xor,.int k n=>some (.int k (k.wrap ((BitVec.ofInt k.bits (if k.signed then -1 else k.max) ^^^ BitVec.ofInt k.bits n).toNat:Int)))
 |.not,.bool b=>some (.bool (!b))
 |_,_=>none
def OM:AV->UInt8
 |.int .u8 n=>UInt8.ofNat n.toNat
 |_=>0
def Q9:AV->Bool
 |.int .u8 _=>true
 |_=>false
def u8s(l:List UInt8):List AV:=l.map λb=>.int .u8 b.toNat
def elems(L:List Blk)(sz:Nat):AV->Option (Prop×List AV×Nat)
 |.nilsl=>some (True,[],0)
 |.sl l n _=>some (l.length=n*sz,l,n)
 |.gsl l n _ s=>some (s=sz,l,n)
 | .lsl i off n _ _=>match L[i]? with
   |some (.cells l)=>some (off+n*sz<=l.length,(l.drop off).take (n*sz),n)
   |some (.bytes l)=>some (off+n*sz<=l.length,(l.drop off).take (n*sz),n)
   |_=>none
 |.str s=>if sz=1 then some (True,u8s s,s.length)else none
 |_=>none
def bnd(T:Tm):Option Opd->Option (Option Int)
 |none=>some none
 | some x=>match evX T x with
   |some (.int _ n)=>some (some n)
   |_=>none
def QT(L:List Blk)(old new:List AV)(n sz:Nat)(dead:Option Nat):AV×List Blk :=
 (.lsl L.length 0 n none sz,(match dead with|some i=>L.set i .dead|none=>L)++[.cells (old++new)])
def app(own : Nat)(sz bytes : Nat)(L : List Blk)(a b : AV): Option (Prop × AV × List Blk) :=
 match elems L sz b with
 |none=>none
 | some (c, new, n) => match a with
   | .sl l m (some k) =>
     if own=1 then some (c/\m=k/\l.length=m*sz/\(m+n)*bytes<=140737488355328/\m+n<=140737488355328,.gsl (l++AV.frzL new) (m+n) L.length sz,L++[.spare (m+n) sz])
     else if own=2 then(if n=0 then some (c/\m<=k,.sl l m (some k),L)else some (c/\m=k/\l.length=m*sz/\(m+n)*bytes<=140737488355328/\m+n<=140737488355328,QT L l new (m+n) sz none))
     else some (c/\m=k/\l.length=m*sz/\(m+n)*bytes<=140737488355328/\m+n<=140737488355328,.sl (l++AV.frzL new) (m+n) none,L)
   | .gsl l m i s=>match L[i]? with
     |some (.spare m' s')=>some (c/\new.all AV.one=true/\s=sz/\m'=m/\s'=sz/\(m+n)*bytes<=140737488355328/\m+n<=140737488355328,.gsl (l++AV.frzL new) (m+n) i sz,L.set i (.spare (m+n) sz))
     |_=>none
   | .lsl i off m cp s=>match L[i]? with
     | some (.cells l) =>
       if s=sz then(if own=4 then(match cp with
         |some rc=>some (c/\new.all AV.one=true/\off+(m+n)*sz<=l.length/\m+n<=rc,.lsl i off (m+n) (some rc) sz,L.set i (.cells (bS l (off+m*sz) new)))
         |none=>none)
        else some (c/\new.all AV.one=true/\off+m*sz<=l.length/\(m+n)*bytes<=140737488355328/\m+n<=140737488355328,QT L ((l.drop off).take (m*sz)) new (m+n) sz (some i)))else none
     |_=>none
   |_=>none
def Qv(s:List UInt8)(p:Nat):Nat×Nat:=Utf8.decode ⟨⟨s⟩⟩ p
def ak(T:Tm)(L:List Blk):LOp->Option (Prop×AV×List Blk)
 |.mv x=>(evX T x).map λv=>(True,v,L)
 | .pick c a b=>match evX T c with
   |some (.bool true)=>(evX T a).map λv=>(True,v,L)
   |some (.bool false)=>(evX T b).map λv=>(True,v,L)
   |_=>none
 |.alloc z=>some (True,.ptr L.length 0,L++[.cells z])
 | .box x=>match (evX T x).bind AV.cells? with
   |some l=>some (True,.ptr L.length 0,L++[.cells l])
   |none=>none
 |.build z ps=>(lv T z ps).map λl=>(True,.agg l,L)
 | .bslice own sz n z ps=>match lv T z ps with
   |some l=>if own then some (True,.lsl L.length 0 n (some n) sz,L++[.cells l])else some (True,.sl l n (some n),L)
   |none=>none
 | .load g sz x=>match (evD T x).bind (row L) with
   |some (l,off)=>if g then some (off+sz<=l.length,.agg ((l.drop off).take sz),L)else some (off<l.length,l.getD off .undef,L)
   |none=>none
 | .store sz a x=>match evX T a,(evX T x).bind AV.cells? with
   | some (.ptr i off),some vals=>match L[i]? with
     |some (.cells l)=>if vals.length=sz/\vals.all AV.one=true then some (off+sz<=l.length,.undef,L.set i (.cells (bS l off vals)))else none
     |some (.bytes l)=>if vals.length=sz/\vals.all AV.one=true then some (off+sz<=l.length,.undef,L.set i (.bytes (bS l off vals)))else none
     |_=>none
   |_,_=>none
 | .nilchk x=>match evD T x with
   |some (.ptr i off)=>some (True,.ptr i off,L)
   |some (.iptr l off)=>some (True,.iptr l off,L)
   |some (.iface t v)=>some (True,.iface t v,L)
   |some (.func f c)=>some (True,.func f c,L)
   |_=>none
 | .bin op x y=>match evX T x,evX T y with
   |some a,some b=>(bin op a b).map λ(c,v)=>(c,v,L)
   |_,_=>none
 | .eq2 neg x y=>match evX T x,evX T y with
   |some (.agg [.str a,.str b]),some (.agg [.str c,.str d])=>some (True,.bool (if neg then !decide (a=c/\b=d)else decide (a=c/\b=d)),L)
   |_,_=>none
 | .eqk neg k x y=>match evX T x,evX T y with
   |some a,some b=>(eqA k a b).map λr=>(True,.bool (if neg then !r else r),L)
   |_,_=>none
 | .slnil neg x=>match evX T x with
   |some (.sl _ n _)=>some (True,if n=0 then .anyb else .bool neg,L)
   |some (.gsl _ n _ _)=>some (True,if n=0 then .anyb else .bool neg,L)
   |some (.lsl _ _ n _ _)=>some (True,if n=0 then .anyb else .bool neg,L)
   |_=>none
 | .un op x=>match evX T x with
   |some a=>(un op a).map λv=>(True,v,L)
   |none=>none
 | .conv k x=>match evX T x with
   |some (.int _ n)=>some (True,.int k (k.wrap n),L)
   |_=>none
 | .sconv x=>match evX T x with
   |some (.str s)=>some (True,.str s,L)
   |_=>none
 | .b2s x=>match evX T x with
   |some (.str _)|none=>none
   | some v=>match elems L 1 v with
     |some (c,l,_)=>some (c/\l.all Q9=true,.str (l.map OM),L)
     |none=>none
 | .s2b x=>match evX T x with
   |some (.str s)=>some (True,.sl (u8s s) s.length none,L)
   |_=>none
 | .s2bO x=>match evX T x with
   |some (.str s)=>some (True,.lsl L.length 0 s.length none 1,L++[.bytes (u8s s)])
   |_=>none
 | .s2bG x=>match evX T x with
   |some (.str s)=>some (True,.gsl (u8s s) s.length L.length 1,L++[.spare s.length 1])
   |_=>none
 | .rangeS x=>match evX T x with
   |some (.str s)=>some (True,.ptr L.length 0,L++[.siter s 0])
   |_=>none
 | .nextS x=>match evX T x with
   | some (.ptr i 0)=>match L[i]? with
     |some (.siter s p)=>if p<s.length then some (True,.tup [.bool true,.int .i64 (p:Int),.int .i32 ((Qv s p).1:Int)],L.set i (.siter s (p+(Qv s p).2)))else some (True,.tup [.bool false],L)
     |_=>none
   |_=>none
 |.mkif t x=>(evX T x).map λv=>(True,.iface t v,L)
 |.mkfn f caps=>(iR T caps).map λl=>(True,.func f l,L)
 | .mkslice sz bytes z l c=>match evX T l,evX T c with
   | some (.int _ n),some (.int _ m) =>
     some (0<=n/\n<=m/\bytes*m<=2^48/\m<2^62,.lsl L.length 0 n.toNat (some m.toNat) sz,L++[.cells (di z m.toNat)])
   |_,_=>none
 | .slS x lo hi=>match evX T x,bnd T lo,bnd T hi with
   | some (.str s),some lo,some hi =>
     some (0<=lo.getD 0/\lo.getD 0<=hi.getD s.length/\hi.getD s.length<=s.length,.str ((s.drop (lo.getD 0).toNat).take ((hi.getD s.length).toNat-(lo.getD 0).toNat)),L)
   |_,_,_=>none
 | .slV sz x lo hi mx=>match evX T x,bnd T lo,bnd T hi,bnd T mx with
   |some .nilsl,some lo,some hi,some none=>some (lo.getD 0=0/\hi.getD 0=0,.nilsl,L)
   | some (.sl l n cap),some lo,some hi,some none =>
     some (0<=lo.getD 0/\lo.getD 0<=hi.getD n/\hi.getD n<=n,
      .sl ((l.drop ((lo.getD 0).toNat*sz)).take (((hi.getD n).toNat-(lo.getD 0).toNat)*sz)) ((hi.getD n).toNat-(lo.getD 0).toNat) (cap.map (· - (lo.getD 0).toNat)),L)
   | some (.gsl l n _ _),some lo,some (some hi),some (some m) =>
     some (0<=lo.getD 0/\lo.getD 0<=hi/\hi<=n/\hi<=m/\m<=n,
      .sl ((l.drop ((lo.getD 0).toNat*sz)).take ((hi.toNat-(lo.getD 0).toNat)*sz)) (hi.toNat-(lo.getD 0).toNat) (some (m.toNat-(lo.getD 0).toNat)),L)
   | some (.sl l n _),some lo,some (some hi),some (some m) =>
     some (0<=lo.getD 0/\lo.getD 0<=hi/\hi<=n/\hi<=m/\m<=n,
      .sl ((l.drop ((lo.getD 0).toNat*sz)).take ((hi.toNat-(lo.getD 0).toNat)*sz)) (hi.toNat-(lo.getD 0).toNat) (some (m.toNat-(lo.getD 0).toNat)),L)
   |some (.gsl l n _ s),some lo,some hi,some none=>some (s=sz/\0<=lo.getD 0/\lo.getD 0<=hi.getD n/\hi.getD n<=n,
    .sl ((l.drop ((lo.getD 0).toNat*sz)).take (((hi.getD n).toNat-(lo.getD 0).toNat)*sz)) ((hi.getD n).toNat-(lo.getD 0).toNat) none,L)
   | some (.lsl i off n cap s),some lo,some hi,some none =>
     if s=sz then some (0<=lo.getD 0/\lo.getD 0<=hi.getD n/\hi.getD n<=((cap.getD n:Nat):Int),.lsl i (off+(lo.getD 0).toNat*sz) ((hi.getD n).toNat-(lo.getD 0).toNat) (cap.map (· - (lo.getD 0).toNat)) s,L)else none
   | some (.lsl i off n cap s),some lo,some (some hi),some (some m) =>
     if s=sz then some (0<=lo.getD 0/\lo.getD 0<=hi/\hi<=m/\m<=((cap.getD n:Nat):Int),.lsl i (off+(lo.getD 0).toNat*sz) (hi.toNat-(lo.getD 0).toNat) (some (m.toNat-(lo.getD 0).toNat)) s,L)else none
   |_,_,_,_=>none
 | .slA n sz x lo hi=>match evD T x,bnd T lo,bnd T hi with
   | some (.iptr l off),some lo,some hi =>
     some (0<=lo.getD 0/\lo.getD 0<=hi.getD n/\hi.getD n<=n/\off+n*sz<=l.length,
      .sl ((l.drop (off+(lo.getD 0).toNat*sz)).take (((hi.getD n).toNat-(lo.getD 0).toNat)*sz)) ((hi.getD n).toNat-(lo.getD 0).toNat) (some (n-(lo.getD 0).toNat)),L)
   | some (.ptr i off),some lo,some hi=>match L[i]? with
     | some (.cells l)=>some (0<=lo.getD 0/\lo.getD 0<=hi.getD n/\hi.getD n<=n/\off+n * sz<=l.length,
       .lsl i (off+(lo.getD 0).toNat*sz) ((hi.getD n).toNat-(lo.getD 0).toNat) (some (n-(lo.getD 0).toNat)) sz,L)
     |_=>none
   |_,_,_=>none
 | .faddr o x=>match evD T x with
   |some (.ptr i off)=>some (True,.ptr i (off+o),L)
   |some (.iptr l off)=>some (True,.iptr l (off+o),L)
   |_=>none
 | .field g o sz x=>match evX T x with
   |some (.agg l)=>if g then some (o+sz<=l.length,.agg ((l.drop o).take sz),L)else some (o<l.length,l.getD o .undef,L)
   |_=>none
 | .iaddr sz x i=>match evX T x,evX T i with
   |some (.sl l n _),some (.int _ k)=>some (0<=k/\k<n,.iptr l (k.toNat*sz),L)
   |some (.gsl l n _ _),some (.int _ k)=>some (0<=k/\k<n,.iptr l (k.toNat*sz),L)
   |some (.lsl j off n _ _),some (.int _ k)=>some (0<=k/\k<n,.ptr j (off+k.toNat*sz),L)
   |_,_=>none
 | .iaddrA n sz x i=>match evD T x,evX T i with
   |some (.iptr l off),some (.int _ k)=>some (0<=k/\k<n,.iptr l (off+k.toNat*sz),L)
   |some (.ptr j off),some (.int _ k)=>some (0<=k/\k<n,.ptr j (off+k.toNat*sz),L)
   |_,_=>none
 | .idxS x i=>match evX T x,evX T i with
   |some (.str s),some (.int _ k)=>some (0<=k/\k<s.length,.int .u8 (s.getD k.toNat 0).toNat,L)
   |_,_=>none
 | .extract x i=>match evX T x with
   |some (.tup l)=>(l[i]?).map λv=>(True,v,L)
   |_=>none
 | .len true x=>match evX T x with
   |some (.str s)=>some (True,.int .i64 s.length,L)
   |_=>none
 | .len false x=>match evX T x with
   |some .nilsl=>some (True,.int .i64 0,L)
   |some (.sl _ n _)=>some (True,.int .i64 n,L)
   |some (.gsl _ n _ _)=>some (True,.int .i64 n,L)
   |some (.lsl _ _ n _ _)=>some (True,.int .i64 n,L)
   |_=>none
 | .cap x=>match evX T x with
   |some .nilsl=>some (True,.int .i64 0,L)
   |some (.sl _ _ (some c))=>some (True,.int .i64 c,L)
   |some (.lsl _ _ _ (some c) _)=>some (True,.int .i64 c,L)
   |_=>none
 | .appz sz bytes z a n=>match evX T a,evX T n with
   | some (.lsl i off m (some cp) s),some (.int _ k)=>match L[i]? with
     |some (.cells l)=>if s=sz then some (0<=k/\k<=1099511627776/\cp<m+k.toNat/\off+m*sz<=l.length/\(m+k.toNat)*bytes<=140737488355328/\m+k.toNat<=140737488355328,
      .lsl L.length 0 (m+k.toNat) none sz,L++[.cells ((l.drop off).take (m*sz)++di z k.toNat)])else none
     |_=>none
   |_,_=>none
 | .app own sz bytes _ a b=>match evX T a,evX T b with
   |some a,some b=>app own sz bytes L a b
   |_,_=>none
 | .copy sz a b=>match evX T a,(evX T b).bind (elems L sz) with
   |some .nilsl,some (c,_,_)=>some (c,.int .i64 0,L)
   | some (.lsl i off m _ s),some (c,new,n)=>match L[i]? with
     |some (.cells l)=>if s=sz then some (c/\off+m*sz<=l.length/\(new.take (min n m*sz)).all AV.one=true,.int .i64 (min n m:Nat),L.set i (.cells (bS l off (new.take (min n m*sz)))))else none
     |_=>none
   |_,_=>none
 | .clear sz z x=>match evX T x with
   |some .nilsl=>some (True,.tup [],L)
   | some (.lsl i off m _ s)=>match L[i]? with
     |some (.cells l)=>if s=sz then some (off+m*sz<=l.length,.tup [],L.set i (.cells (bS l off (di z m))))else none
     |_=>none
   |_=>none
 | .minmax mx [x,y]=>match evX T x,evX T y with
   |some (.int k a),some (.int _ b)=>some (True,.int k (if mx then(if b>a then b else a)else(if b<a then b else a)),L)
   |_,_=>none
 |.mkmap=>some (True,.lmap L.length,L++[.map [] 0])
 | .mget kd ok z m k=>match evX T m,evX T k with
   |some .nilmap,some k=>if aU kd k=true then some (True,if ok then .tup [z,.bool false]else z,L)else none
   | some (.lmap i),some k=>match L[i]? with
     | some (.map es _)=>if aU kd k=true then (match bH k es 0 with
       |some (some (_,v))=>some (True,if ok then .tup [v,.bool true]else v,L)
       |some none=>some (True,if ok then .tup [z,.bool false]else z,L)
       |none=>none)else none
     |_=>none
   |_,_=>none
 | .mset kd m k v=>match evX T m,evX T k,evX T v with
   | some (.lmap i),some k,some v=>match L[i]? with
     | some (.map es ck)=>if aU kd k=true then (match bH k es 0 with
       |some (some (j,_))=>some (True,.undef,L.set i (.map (Vk k v es j) ck))
       |some none=>some (True,.undef,L.set i (.map (es++[(k,v,ck)]) (ck+1)))
       |none=>none)else none
     |_=>none
   |_,_,_=>none
 | .mdel kd m k=>match evX T m,evX T k with
   |some .nilmap,some k=>if aU kd k=true then some (True,.tup [],L)else none
   | some (.lmap i),some k=>match L[i]? with
     | some (.map es ck)=>if aU kd k=true then (match bH k es 0 with
       |some (some (j,_))=>some (True,.tup [],L.set i (.map (es.eraseIdx j) ck))
       |some none=>some (True,.tup [],L.set i (.map es ck))
       |none=>none)else none
     |_=>none
   |_,_=>none
 | .mclr x=>match evX T x with
   |some .nilmap=>some (True,.tup [],L)
   | some (.lmap i)=>match L[i]? with
     |some (.map _ ck)=>some (True,.tup [],L.set i (.map [] ck))
     |_=>none
   |_=>none
 | .mrange x=>match evX T x with
   |some .nilmap=>some (True,.ptr L.length 0,L++[.miter none 0 [] 0])
   | some (.lmap i)=>match L[i]? with
     |some (.map es ck)=>some (True,.ptr L.length 0,L++[.miter (some i) ck [] ck])
     |_=>none
   |_=>none
 | .mnext x=>match evX T x with
   | some (.ptr i 0)=>match L[i]? with
     |some (.miter none _ _ _)=>some (True,.tup [.bool false],L)
     | some (.miter (some j) since seen last)=>match L[j]? with
       | some (.map es ck)=>match Zz es since seen last with
         |some r=>some (True,LV r,RK L i j since seen ck r)
         |none=>none
       |_=>none
     |_=>none
   |_=>none
 | .mentry x=>match evX T x with
   | some (.ptr i 0)=>match L[i]? with
     | some (.miter (some j) since seen st)=>match L[j]? with
       | some (.map es ck)=>match mat es ck seen st with
         |some e=>some (True,.tup [e.1,e.2.1],L)
         |none=>none
       |_=>none
     |_=>none
   |_=>none
 | .mlen m=>match evX T m with
   |some .nilmap=>some (True,.int .i64 0,L)
   | some (.lmap i)=>match L[i]? with
     |some (.map es _)=>some (True,.int .i64 es.length,L)
     |_=>none
   |_=>none
 |_=>none
end Go.Proofs.YtajkbcmleihaoaaGreatDoor.Av
