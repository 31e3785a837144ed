/- Joined texts of the walk, made small by a program. -/
import Derived.Calls
import Derived.Orders
import Derived.OrdersIn
import Derived.OwnWalkIn
import Derived.RangeFuncRecord
import Derived.KernelRfl
import GoSem.PinnedTables
import Derived.WalkKit
set_option linter.unusedSimpArgs false
set_option linter.unusedVariables false
namespace Go.Proofs.YtdnfjhflkkpokaaGreatDoor.Av
open Go
variable {p:Prop}{b i n sz off:Nat}{a:Act}{v:Value}{w w' w0:World}{P:Program}
theorem amM(h:p:=by omega):p:=h
theorem amN(h:p:=by simp):p:=h
theorem amO(h:p:=by kernel_rfl):p:=h
theorem ajl{α : Sort _}(a : α): ∃x, a = x := ⟨_, rfl⟩
theorem ajm{α : Type _}{l m : List α}{i : Nat}{b : α}(h : l[i]? = some b): (l ++ m)[i]? = some b := by rw[List.getElem?_append_left (List.getElem?_eq_some_iff.1 h).1];exact h
abbrev ajr:=@List.getElem?_eq_some_iff
abbrev ajs:=@Nat.le_refl
abbrev ajt:=@Option.some.injEq
abbrev aju:=@Nat.zero_le
abbrev ajv:=@Bool.and_eq_true
abbrev ajw:=@List.getElem?_append_left
abbrev ajx:=@List.mem_append
abbrev ajy:=@List.mem_map
abbrev ajz:=@List.length_cons
abbrev ajA:=@List.length_append
abbrev ajB:=@Sem.run_bind
abbrev ajC:=@Result.andThen_ok
abbrev ajD:=@List.append_assoc
abbrev ajE:=@List.all_eq_true
abbrev ajF:=@List.getElem?_eq_getElem
abbrev ajG:=@List.getElem?_append_right
abbrev ajH:=@Prod.mk.injEq
abbrev ajI:=@List.mem_singleton
abbrev ajJ:=@List.getElem?_set_ne
abbrev ajK:=@Bool.false_eq_true
abbrev ajL:=@List.take_length
abbrev ajM:=@List.mem_cons
abbrev ajN:=@List.take_succ_eq_append_getElem
abbrev ajO:=@List.getD_eq_getElem?_getD
abbrev ajP:=@List.map_cons
abbrev ajQ:=@Option.map_some
abbrev ajR:=@List.length_map
abbrev ajS:=@List.map_map
abbrev ajT:=@Nat.lt_or_ge
abbrev ajU:=@Nat.le_trans
abbrev ajV:=@List.map_append
abbrev ajW:=@Option.map_eq_some_iff
abbrev ajX:=@Nat.zero_mul
abbrev ajY:=@List.drop_eq_getElem_cons
abbrev ajZ:=@List.set_append_right
abbrev aj0:=@List.nil_append
abbrev aj1:=@List.getElem?_set
abbrev aj2:=@Sem.run_pure
abbrev aj3:=@List.take_of_length_le
abbrev aj4:=@List.length_eq_zero_iff
abbrev aj5:=@List.flatMap_cons
abbrev aj6:=@List.append_nil
abbrev aj7:=@Bool.true_and
abbrev aj8:=@Option.map_none
abbrev aj9:=@List.length_nil
abbrev aka:=@List.mem_filter
abbrev akb:=@Bool.not_eq_true'
abbrev akc:=@Bool.or_eq_true
abbrev akd:=@List.cons_append
abbrev ake:=@List.drop_length
abbrev akf:=@Array.getElem?_eq_some_iff
abbrev akg:=@List.mem_of_getElem?
abbrev akh:=@List.length_pos_iff
abbrev aki:=@List.getElem?_drop
abbrev akj:=@List.getElem?_take_of_lt
abbrev akk:=@List.mem_iff_getElem
abbrev akl:=@List.not_mem_nil
abbrev akm:=@List.foldl_cons
abbrev akn:=@List.getElem?_cons_zero
abbrev ako:=@List.mem_append_left
abbrev akp:=@Bool.false_and
abbrev akq:=@Array.getElem?_eq_getElem
abbrev akr:=@List.getElem?_map
abbrev aks:=@Option.getD_some
abbrev akt:=@Nat.add_mul
abbrev aku:=@List.contains_eq_mem
abbrev akv:=@List.getElem?_cons_succ
abbrev akw:=@Nat.zero_add
abbrev akx:=@Bool.true_eq_false
abbrev aky:=@List.getElem_mem
abbrev akz:=@Nat.add_zero
abbrev akA:=@List.map_nil
abbrev akB:=@List.pairwise_iff_getElem
abbrev akC:=@Nat.mul_le_mul_right
abbrev akD:=@Nat.add_assoc
abbrev akE:=@Bool.false_or
abbrev akF:=@List.map_congr_left
abbrev akG:=@List.sum_cons
abbrev akH:=@List.length_take
abbrev akI:=@List.lt_irrefl
abbrev akJ:=@List.find?_eq_none
abbrev akK:=@Nat.lt_of_lt_of_le
abbrev akL:=@List.all_cons
abbrev akM:=@Nat.eq_zero_or_pos
abbrev akN:=@List.contains_iff_mem
abbrev akO:=@List.mem_append_right
abbrev akP:=@List.nodup_cons
abbrev akQ:=@List.length_drop
abbrev akR:=@List.not_lt
abbrev akS:=@List.length_reverse
abbrev akT:=@List.getElem?_append
abbrev akU:=@Array.getElem?_push_lt
abbrev akV:=@Option.bind_some
abbrev akW:=@List.take_zero
abbrev akX:=@List.any_eq_true
abbrev akY:=@List.getElem?_set_self
abbrev akZ:=@Array.getD_eq_getD_getElem?
abbrev ak0:=@List.filterMap_append
abbrev ak1:=@List.take_append_drop
abbrev ak2:=@List.set_cons_succ
abbrev ak3:=@List.set_append_left
abbrev ak4:=@Function.comp_apply
abbrev ak5:=@List.length_tail
abbrev ak6:=@List.mem_of_find?_eq_some
abbrev ak7:=@List.find?_some
abbrev ak8:=@Bool.eq_iff_iff
abbrev ak9:=@List.length_filter_le
abbrev ala:=@List.drop_of_length_le
abbrev alb:=@List.mem_cons_of_mem
abbrev alc:=@Bool.not_true
abbrev ald:=@List.take_succ_cons
abbrev ale:=@Nat.sub_self
abbrev alf:=@Bool.true_or
abbrev alg:=@List.getD_cons_zero
abbrev alh:=@List.drop_eq_nil_of_le
abbrev ali:=@List.mergeSort_perm
abbrev alj:=@List.pairwise_cons
abbrev alk:=@List.findIdx?_cons
abbrev alm:=@List.mem_iff_getElem?
abbrev aln:=@List.find?_cons
abbrev alo:=@Bool.and_self
abbrev alp:=@UInt8.toNat_inj
abbrev alq:=@Bool.not_eq_true
abbrev alr:=@List.any_eq_false
abbrev als:=@List.suffix_refl
abbrev alt:=@List.getElem?_eq_none
abbrev alu:=@Array.getElem?_modify
abbrev alv:=@List.ext_getElem?
abbrev alw:=@Bool.and_true
abbrev alx:=@Option.bind_eq_some_iff
abbrev aly:=@List.all_nil
abbrev alz:=@Nat.sub_zero
abbrev alA:=@Bool.decide_and
abbrev alB:=@List.drop_zero
abbrev alC:=@Bool.or_eq_false_iff
abbrev alD:=@List.any_append
abbrev alE:=@List.eq_nil_or_concat
abbrev alF:=@List.suffix_cons
abbrev alG:=@List.lt_trans
abbrev alH:=@Decidable.not_not
abbrev alI:=@List.tail_suffix
abbrev alJ:=@Nat.succ_mul
abbrev alK:=@List.getElem?_toArray
abbrev alL:=@Bool.not_false
abbrev alM:=@List.filter_cons
abbrev alN:=@List.mem_zipIdx_iff_getElem?
abbrev alO:=@Nat.lt_trichotomy
abbrev alP:=@Bool.or_true
abbrev alQ:=@List.getD_cons_succ
abbrev alR:=@List.drop_succ_cons
abbrev alS:=@List.foldl_append
abbrev alT:=@List.mem_map_of_mem
abbrev alU:=@List.le_iff_lt_or_eq
abbrev alV:=@List.filter_append
abbrev alW:=@List.nodup_append
abbrev alX:=@Nat.not_lt_zero
abbrev alY:=@Int.le_refl
abbrev alZ:=@List.flatMap_append
abbrev al0:=@List.foldl_nil
abbrev al1:=@Array.getElem?_setIfInBounds
abbrev al2:=@List.singleton_append
abbrev al3:=@World.putObj_heap_other
abbrev al4:=@Bool.decide_or
abbrev al5:=@Bool.and_false
abbrev al6:=@Bool.or_false
abbrev al7:=@Bool.and_eq_false_iff
abbrev al8:=@List.getElem_take
abbrev al9:=@List.concat_eq_append
abbrev ama:=@List.filter_cons_of_neg
abbrev amb:=@List.filter_cons_of_pos
abbrev amc:=@List.drop_one
abbrev amd:=@List.map_take
abbrev ame:=@List.findIdx?_eq_none_iff
abbrev amf:=@List.cons.injEq
abbrev amg:=@List.mem_of_mem_take
abbrev amh:=@Bool.and_assoc
abbrev ami:=@Nat.pow_succ
abbrev amj:=@List.mapM_cons
abbrev amk:=@ByteArray.toList_mk
abbrev aml:=@Option.getD_none
abbrev amm:=@Option.mem_toList
abbrev amn:=@Array.getElem?_append_left
abbrev amo:=@Int.tmod_eq_emod_of_nonneg
abbrev amp:=@List.getElem_drop
abbrev amq:=@List.le_antisymm
abbrev amr:=@List.pairwise_map
abbrev ams:=@List.pairwise_mergeSort
abbrev amt:=@List.flatten_cons
abbrev amu:=@List.flatten_nil
abbrev amv:=@List.length_mergeSort
abbrev amw:=@Bool.eq_false_iff
abbrev amx:=@List.flatMap_nil
abbrev amy:=@Array.getElem?_toList
abbrev amz:=@List.countP_eq_zero
abbrev amA:=@List.length_singleton
abbrev amB:=@List.map_eq_nil_iff
abbrev amC:=@List.pairwise_append
abbrev amD:=@List.Perm.eq_of_pairwise
abbrev amE:=@List.append_eq_nil_iff
inductive AV where
 |undef
 |bool (b:Bool)
 |anyb
 |int (k:IntKind) (n:Int)
 |str (l:List UInt8)
 |nilptr
 |gptr (g off:Nat)
 |ptr (i off:Nat)
 |iptr (l:List AV) (off:Nat)
 |nilsl
 |sl (l:List AV) (n:Nat) (cap:Option Nat)
 |lsl (i off len:Nat) (cap:Option Nat) (sz:Nat)
 |gsl (l:List AV) (n i sz:Nat)
 |nilmap
 |lmap (i:Nat)
 |yld (i:Nat)
 |func (f:FuncId) (caps:List AV)
 |nilfunc
 |nilif
 |iface (t:TypeId) (v:AV)
 |agg (l:List AV)
 |tup (l:List AV)
 deriving Inhabited
variable {l vals:List AV}
structure Loc where
 blk:Nat
 off:Nat
 size:Nat
variable {c:Loc}
structure Tok where
 pos:Nat
 sz:Nat
 loc:Option Loc
structure SB where
 S:Nat->Prop
 B:Nat
variable {S0:SB}
instance:CoeFun SB (fun _=>Nat->Prop):=⟨SB.S⟩
structure Env where
 mem:Nat->Nat->Option Value
 loc:Nat->Option Loc
 tok:Nat->Option Tok
variable {E E':Env}
mutual
def VR(E:Env):AV->Value->Prop
 |.undef,_=>True
 |.bool b,v=>v=.bool b
 |.anyb,v=>∃b,v=.bool b
 |.int k n,v=>v=.int k n
 |.str l,v=>v=.string ⟨⟨l⟩⟩
 |.nilptr,v=>v=.pointer none
 |.gptr g off,v=>v=.pointer (some ⟨g,off,none⟩)
 |.ptr i off,v=>∃c,E.loc i=some c/\v=.pointer (some ⟨c.blk,c.off+off,none⟩)
 |.iptr l off,v=>∃b o,v=.pointer (some ⟨b,o+off,none⟩)/\VRC E l b o
 |.nilsl,v=>v=.slice none 0 0
 |.sl l n cap,v=>∃p c,v=.slice p n c/\n<=c/\(∀k,cap=some k->c=k)/\((n=0/\c=0/\l=[])\/∃b o,p=some ⟨b,o,none⟩/\VRC E l b o)
 |.lsl i off len cap sz,v=>∃c rc d,E.loc i=some c/\v=.slice (some ⟨c.blk,d,none⟩) len rc/\(rc≠0->d=c.off+off)/\len<=rc /\
  (∀k,cap=some k->rc=k)/\c.off+off+rc*sz<=c.size
 |.gsl l n i sz,v=>∃p c,v=.slice p n c/\n<=c/\l.length=n*sz/\((n=0/\c=0/\l=[])\/∃b o,p=some ⟨b,o,none⟩/\VRC E l b o) /\
  ∃t,E.tok i=some t/\n<=t.pos/\(n=t.pos->t.sz=sz/\(t.loc=none->c=n)/\∀k,t.loc=some k->p=some ⟨k.blk,0,none⟩/\c*sz<=k.size)
 |.nilmap,v=>v=.map none
 |.lmap i,v=>∃c,E.loc i=some c/\v=.map (some c.blk)
 |.yld i,v=>∃c,E.loc i=some c/\v=.func (.yield c.blk) #[] #[]
 |.func f caps,v=>∃vs,v=.func (.func f) #[] ⟨vs⟩/\VRL E caps vs
 |.nilfunc,v=>v=.nilFunc
 |.nilif,v=>v=.nilIface
 |.iface t a,v=>∃x,v=.iface t x/\VR E a x
 |.agg l,v=>∃vs,v=.agg ⟨vs⟩/\VRL E l vs
 |.tup l,v=>∃vs,v=.tuple ⟨vs⟩/\VRL E l vs
def VRL(E:Env):List AV->List Value->Prop
 |[],vs=>vs=[]
 |a::l,vs=>∃x xs,vs=x::xs/\VR E a x/\VRL E l xs
def VRC(E:Env):List AV->Nat->Nat->Prop
 |[],_,_=>True
 |a::l,b,o=>(∃x,E.mem b o=some x/\VR E a x)/\VRC E l b (o+1)
end
structure Env.le(E E':Env):Prop where
 mem:∀b o v,E.mem b o=some v->E'.mem b o=some v
 loc:∀i c,E.loc i=some c->E'.loc i=some c
 tok:∀i t,E.tok i=some t->∃t',E'.tok i=some t'/\(t'=t\/t.pos<t'.pos)
theorem Env.le.refl(E:Env):E.le E:=⟨λ_ _ _ h=>h,λ_ _ h=>h,λ_ t h=>⟨t,h,.inl rfl⟩⟩
theorem Env.le.trans{A B C:Env}(h:A.le B)(k:B.le C):A.le C:=⟨λb o v x=>k.mem b o v (h.mem b o v x),λi c x=>k.loc i c (h.loc i c x),λi t x=>by obtain⟨t1,h1,h2⟩:=h.tok i t x;obtain⟨t2,h3,h4⟩:=k.tok i t1 h1;refine⟨t2,h3,?_⟩;rcases h2 with rfl|h2<;>rcases h4 with rfl|h4;exact .inl rfl;exact .inr h4;exact .inr h2;exact .inr (Nat.lt_trans h2 h4)⟩
mutual
theorem VR.mono{E E':Env}(h:E.le E'):∀(a:AV) (v:Value),VR E a v->VR E' a v
 |.undef,_,_=>by simp[VR]
 |.bool _,_,r=>by simpa[VR]using r
 |.anyb,_,r=>by simpa[VR]using r
 |.int _ _,_,r=>by simpa[VR]using r
 |.str _,_,r=>by simpa[VR]using r
 |.nilptr,_,r=>by simpa[VR]using r
 |.gptr _ _,_,r=>by simpa[VR]using r
 |.ptr i off,v,r=>by simp only[VR]at r⊢;obtain⟨c,h1,h2⟩:=r;exact⟨c,h.loc _ _ h1,h2⟩
 |.iptr l off,v,r=>by simp only[VR]at r⊢;obtain⟨b,o,h1,h2⟩:=r;exact⟨b,o,h1,VRC.mono h l b o h2⟩
 |.nilsl,_,r=>by simpa[VR]using r
 |.sl l n cap,v,r=>by simp only[VR]at r⊢;obtain⟨p,c,h1,h2,h3,h4⟩:=r;exact⟨p,c,h1,h2,h3,h4.imp id λ⟨b,o,h5,h6⟩=>⟨b,o,h5,VRC.mono h l b o h6⟩⟩
 | .gsl l n i sz,v,r=>by
   simp only[VR]at r⊢;obtain⟨p,c,h1,h2,h3,h4,t,h5,h6,h7⟩:=r;obtain⟨t',h8,h9⟩:=h.tok _ _ h5;refine⟨p,c,h1,h2,h3,h4.imp id λ⟨b,o,h5,h6⟩=>⟨b,o,h5,VRC.mono h l b o h6⟩,t',h8,?_⟩;rcases h9 with rfl|h9
   .exact⟨h6,h7⟩
   .exact⟨amM,λe=>amM⟩
 |.lsl i off len cap sz,v,r=>by simp only[VR]at r⊢;obtain⟨c,rc,d,h1,h2⟩:=r;exact⟨c,rc,d,h.loc _ _ h1,h2⟩
 |.nilmap,_,r=>by simpa[VR]using r
 |.lmap i,v,r=>by simp only[VR]at r⊢;obtain⟨c,h1,h2⟩:=r;exact⟨c,h.loc _ _ h1,h2⟩
 |.yld i,v,r=>by simp only[VR]at r⊢;obtain⟨c,h1,h2⟩:=r;exact⟨c,h.loc _ _ h1,h2⟩
 |.func f caps,v,r=>by simp only[VR]at r⊢;obtain⟨vs,h1,h2⟩:=r;exact⟨vs,h1,VRL.mono h caps vs h2⟩
 |.nilfunc,_,r=>by simpa[VR]using r
 |.nilif,_,r=>by simpa[VR]using r
 |.iface t a,v,r=>by simp only[VR]at r⊢;obtain⟨x,h1,h2⟩:=r;exact⟨x,h1,VR.mono h a x h2⟩
 |.agg l,v,r=>by simp only[VR]at r⊢;obtain⟨vs,h1,h2⟩:=r;exact⟨vs,h1,VRL.mono h l vs h2⟩
 |.tup l,v,r=>by simp only[VR]at r⊢;obtain⟨vs,h1,h2⟩:=r;exact⟨vs,h1,VRL.mono h l vs h2⟩
theorem VRL.mono{E E':Env}(h:E.le E'):∀(l:List AV) (vs:List Value),VRL E l vs->VRL E' l vs
 |[],_,r=>by simpa[VRL]using r
 |a::l,vs,r=>by simp only[VRL]at r⊢;obtain⟨x,xs,h1,h2,h3⟩:=r;exact⟨x,xs,h1,VR.mono h a x h2,VRL.mono h l xs h3⟩
theorem VRC.mono{E E':Env}(h:E.le E'):∀(l:List AV) (b o:Nat),VRC E l b o->VRC E' l b o
 |[],_,_,_=>by simp[VRC]
 |a::l,b,o,r=>by simp only[VRC]at r⊢;obtain⟨⟨x,h1,h2⟩,h3⟩:=r;exact⟨⟨x,h.mem _ _ _ h1,VR.mono h a x h2⟩,VRC.mono h l b (o+1) h3⟩
end
theorem VRL.length{E:Env}:∀{l:List AV}{vs:List Value},VRL E l vs->vs.length=l.length
 |[],_,r=>by simp only[VRL]at r;subst r;rfl
 |a::l,vs,r=>by obtain⟨x,xs,rfl,_,h3⟩:=r;simp[VRL.length h3]
theorem VRL.get{E:Env}:∀{l:List AV}{vs:List Value}{i:Nat}{a:AV},VRL E l vs->l[i]?=some a->∃v,vs[i]?=some v/\VR E a v
 |[],_,_,_,_,h=>by simp at h
 | a::l,vs,i,x,r,h=>by
   obtain⟨y,ys,rfl,h2,h3⟩:=r;cases i with
   |zero=>simp at h;subst h;exact⟨y,amN,h2⟩
   |succ i=>simp at h;simpa using VRL.get h3 h
theorem VRL.of_get{E:Env}:∀{l:List AV}{vs:List Value},vs.length=l.length->(∀(i:Nat) (a:AV),l[i]?=some a->∃v,vs[i]?=some v/\VR E a v)->VRL E l vs
 |[],vs,hl,_=>by have:vs=[]:=(by cases vs<;>simp_all);simp[VRL,this]
 | a::l,vs,hl,h=>by
   cases vs with
   |nil=>simp at hl
   | cons x xs =>
     refine⟨x,xs,rfl,?_,VRL.of_get (by simpa using hl) λi b hb=>by simpa using h (i+1) b (by simpa using hb)⟩;obtain⟨v,h1,h2⟩:=h 0 a amN;simp_all
theorem VRC.get{E:Env}:∀{l:List AV}{b o i:Nat}{a:AV},VRC E l b o->l[i]?=some a->∃v,E.mem b (o+i)=some v/\VR E a v
 |[],_,_,_,_,_,h=>by simp at h
 | a::l,b,o,i,x,r,h=>by
   obtain⟨⟨y,h1,h2⟩,h3⟩:=r;cases i with
   |zero=>simp at h;subst h;exact⟨y,by simpa using h1,h2⟩
   | succ i =>
     obtain⟨v,h4,h5⟩:=VRC.get h3 h
     grind
theorem VRC.of_get{E:Env}:∀{l:List AV}{b o:Nat},(∀(i:Nat) (a:AV),l[i]?=some a->∃v,E.mem b (o+i)=some v/\VR E a v)->VRC E l b o
 |[],_,_,_=>by simp[VRC]
 | a::l,b,o,h=>by
   refine⟨by simpa using h 0 a amN,VRC.of_get λi x hx=>?_⟩;have:=h (i+1) x (by simpa using hx)
   grind
theorem VRC.drop{o:Nat}(n:Nat)(h:VRC E l b o):VRC E (l.drop n) b (o+n):=
 VRC.of_get λi a ha=>by
  rw[aki]at ha;have:=h.get ha
  grind
theorem VRC.take{o:Nat}(n:Nat)(h:VRC E l b o):VRC E (l.take n) b o :=
 VRC.of_get λi a ha=>by rw[List.getElem?_take]at ha;split at ha;exact h.get ha;simp_all
theorem VRL.append{E:Env}:∀{l m:List AV}{vs ws:List Value},VRL E l vs->VRL E m ws->VRL E (l++m) (vs++ws)
 |[],_,_,_,h,k=>by simp only[VRL]at h;subst h;simpa using k
 |a::l,m,vs,ws,h,k=>by obtain⟨x,xs,rfl,h2,h3⟩:=h;exact⟨x,xs++ws,rfl,h2,VRL.append h3 k⟩
def AV.one:AV->Bool
 |.undef|.agg _|.tup _=>false
 |_=>true
def AV.cells:AV->List AV
 |.agg l=>l
 |a=>[a]
def Value.one:Value->Bool
 |.agg _|.tuple _=>false
 |_=>true
theorem VR.one{a:AV}(h:VR E a v)(ha:a.one=true):Value.one v=true:=by
 cases a<;>simp only[AV.one,ajK]at ha<;>simp only[VR]at h
 all_goals first
  |(subst h;rfl)
  |(obtain⟨_,_,h,_⟩:=h;subst h;rfl)
  |(obtain⟨_,h,_⟩:=h;subst h;rfl)
  |(obtain⟨_,_,_,h,_⟩:=h;subst h;rfl)
  |(obtain⟨_,h⟩:=h;subst h;rfl)
  |(obtain⟨_,_,h⟩:=h;subst h;rfl)
  |(obtain⟨_,_,_,_,h,_⟩:=h;subst h;rfl)
  |skip
def aet:List AV:=[.int .u64 1,.int .u64 10,.int .u64 100,.int .u64 1000,.int .u64 10000,.int .u64 100000,.int .u64 1000000,.int .u64 10000000,.int .u64 100000000,.int .u64 1000000000,.int .u64 10000000000,.int .u64 100000000000,.int .u64 1000000000000,.int .u64 10000000000000,.int .u64 100000000000000,.int .u64 1000000000000000,.int .u64 10000000000000000,.int .u64 100000000000000000,.int .u64 1000000000000000000,.int .u64 10000000000000000000]
def XI:List AV:=[.int .u8 128,.int .u8 191,.int .u8 160,.int .u8 191,.int .u8 128,.int .u8 159,.int .u8 144,.int .u8 191,.int .u8 128,.int .u8 143,.int .u8 0,.int .u8 0,.int .u8 0,.int .u8 0,.int .u8 0,.int .u8 0,.int .u8 0,.int .u8 0,.int .u8 0,.int .u8 0,.int .u8 0,.int .u8 0,.int .u8 0,.int .u8 0,.int .u8 0,.int .u8 0,.int .u8 0,.int .u8 0,.int .u8 0,.int .u8 0,.int .u8 0,.int .u8 0]
def aes:List AV:=[.iface 321 (.undef)]
def aer:List AV:=[.iface 321 (.undef)]
def aeq:List AV:=[.int .i64 31,.int .i64 28,.int .i64 31,.int .i64 30,.int .i64 31,.int .i64 30,.int .i64 31,.int .i64 31,.int .i64 30,.int .i64 31,.int .i64 30,.int .i64 31]
def XH:List AV:=Go.Pinned.utf8FirstZ.map λ(n:Nat)=>AV.int .u8 (Int.ofNat n)
def J4:List (Nat×List AV):=[(6,aet),(1,XI),(5,aes),(4,aer),(2,aeq),(0,XH)]
def TZ:List Nat:=[3]
def kj(g:Nat):Option (List AV):=(J4.find? λp=>p.1 == g).map (·.2)
theorem aeG:kj 6=some aet:=by rfl
attribute [push_cast] aeG
theorem aeF:kj 1=some XI:=by rfl
attribute [push_cast] aeF
theorem aeE:kj 5=some aes:=by rfl
attribute [push_cast] aeE
theorem aeD:kj 4=some aer:=by rfl
attribute [push_cast] aeD
theorem aeC:kj 2=some aeq:=by rfl
attribute [push_cast] aeC
theorem aeB:kj 0=some XH:=by rfl
attribute [push_cast] aeB
def mw(m:Nat->Nat->Option Value):Prop:=(∀p∈J4,VRC ⟨m,λ_=>none,λ_=>none⟩ p.2 p.1 0)/\∀g∈TZ,∃z,m g 0=some (.int .i64 z)
theorem mw.mono{m m':Nat->Nat->Option Value}(h:mw m)(hm:∀b o v,m b o=some v->m' b o=some v):mw m':=⟨λp hp =>
 VRC.mono ⟨hm,(λ_ _ x=>by cases x),(λ_ _ x=>by cases x)⟩ _ _ _ (h.1 p hp),λg hg=>by
 obtain⟨z,hz⟩:=h.2 g hg;exact⟨z,hm _ _ _ hz⟩⟩
theorem mw.env(h:mw E.mem){p:Nat×List AV}(hp:p∈J4):VRC E p.2 p.1 0 :=
 VRC.mono (E:=⟨E.mem,λ_=>none,λ_=>none⟩) (E':=E) ⟨λ_ _ _ x=>x,(λ_ _ x=>by cases x),(λ_ _ x=>by cases x)⟩ _ _ _ (h.1 p hp)
def qz(w:World):Prop:=∀p∈J4,p.2≠[]->∃cs ty fr,w.heap[p.1]?=some (.cells cs ty fr)/\cs.size=p.2.length
theorem qz.push(h:qz w)(o:Obj):qz {w with heap:=w.heap.push o}:=λp hp hne=>by
 obtain⟨cs,ty,fr,h1,h2⟩:=h p hp hne
 grind
theorem qz.keep{m:Nat->Nat->Option Value}(h:qz w)(hg:mw m)(hs:∀b,(∃v,m b 0=some v)->w'.heap[b]?=w.heap[b]?):qz w':=λp hp hne=>by
 obtain⟨cs,ty,fr,h1,h2⟩:=h p hp hne;have:=hg.1 p hp;obtain⟨g,l⟩:=p;cases l with
 |nil=>exact absurd rfl hne
 | cons a l =>
   simp only[VRC]at this
   grind
theorem qz.mod(h:qz w)(hs:∀(b:Nat) (cs:Array Value) (ty:TypeId) (fr:Nat×Nat),w.heap[b]?=some (Obj.cells cs ty fr)->∃(cs':Array Value) (ty':TypeId) (fr':Nat×Nat),w'.heap[b]?=some (Obj.cells cs' ty' fr')/\cs'.size=cs.size):qz w':=λp hp hne=>by
 obtain⟨cs,ty,fr,h1,h2⟩:=h p hp hne
 grind
theorem aay{g:Nat}(h:kj g=some l):(g,l)∈J4:=by
 simp only[kj,ajW]at h
 grind
abbrev Tm:=List (Nat×AV)
variable {T:Tm}
def ay:Tm->Nat->Option AV
 |[],_=>none
 |(d,v)::T,t=>if d=t then some v else ay T t
theorem QY:∀{T:Tm}{t:Nat}{v:AV},ay T t=some v->(t,v)∈T
 |[],_,_,h=>by simp[ay]at h
 | (d,u)::T,t,v,h=>by
   simp only[ay]at h;split at h
   .simp_all
   .exact alb _ (QY h)
inductive Blk where
 |dead
 |cells (l:List AV)
 |map (es:List (AV×AV×Nat)) (ck:Nat)
 |miter (m:Option Nat) (since:Nat) (seen:List Nat) (last:Nat)
 |siter (s:List UInt8) (pos:Nat)
 |bytes (l:List AV)
 |spare (n sz:Nat)
 |lrec (T:Tm) (n:Nat) (fn:FuncId) (ps:List Nat) (ca cb:Code) (busy:Bool)
 deriving Inhabited
variable {k:Blk}{L L':List Blk}
def Blk.live:Blk->Bool
 |.dead=>false
 |.spare _ _=>false
 |_=>true
def aE(E:Env):List (AV×AV×Nat)->List MapEntry->Prop
 |[],es=>es=[]
 |(k,x,b)::l,es=>∃e r,es=e::r/\VR E k e.key/\VR E x e.val/\e.born=b/\aE E l r
def MIt(E:Env):Option Nat->Option Nat->Prop
 |none,r=>r=none
 |some j,r=>∃d,E.loc j=some d/\r=some d.blk
def bS(E:Env)(w:World)(i:Nat):Blk->Prop
 |.dead=>True
 |.cells l=>∃c cs ty fr,E.loc i=some c/\w.heap[c.blk]?=some (.cells cs ty fr)/\cs.size=c.size/\c.off+l.length<=c.size /\
  (∀j a,l[j]?=some a->∃v,cs[c.off+j]?=some v/\VR E a v)/\(∀o,c.off<=o->o<=c.size->¬(fr.1<=o/\o<fr.2))
 |.bytes l=>∃c cs ty fr,E.loc i=some c/\w.heap[c.blk]?=some (.cells cs ty fr)/\cs.size=c.size/\c.off+l.length<=c.size /\
  (∀j a,l[j]?=some a->∃v,cs[c.off+j]?=some v/\VR E a v)/\(∀o,c.off<=o->o<c.size->¬(fr.1<=o/\o<fr.2))
 |.map es ck=>∃c rs,E.loc i=some c/\w.heap[c.blk]?=some (.map rs ck)/\aE E es rs.toList
 |.miter m since seen last=>∃c r,E.loc i=some c/\w.heap[c.blk]?=some (.mapIter r since ⟨seen⟩ last)/\c.off=0/\MIt E m r
 |.siter s pos=>∃c,E.loc i=some c/\w.heap[c.blk]?=some (.stringIter ⟨⟨s⟩⟩ pos)/\c.off=0
 |.lrec T n fn ps ca cb busy=>∃c D tm,E.loc i=some c/\w.heap[c.blk]?=some (.loop {state:=if busy then .busy else .ready,pending:=none,fn:=fn,tmps:=tm,params:=⟨ps⟩,assign:=ca,body:=cb,defers:=D})/\c.off=0/\tm.size=n/\∀t v,ay T t=some v->VR E v (tm.getD t undef)
 |.spare n sz=>∃t,E.tok i=some t/\t.pos=n/\t.sz=sz/\∀k,t.loc=some k->∃cs ty fr,w.heap[k.blk]?=some (.cells cs ty fr)/\cs.size=k.size/\(∀o,n*sz<=o->o<k.size->¬(fr.1<=o/\o<fr.2))
structure Rel(w0:World)(S0:SB)(E:Env)(L:List Blk)(w:World):Prop where
 mem:∀b o v,E.mem b o=some v->w.cell? ⟨b,o,none⟩=some v
 blk:∀i k,L[i]?=some k->bS E w i k
 fresh:∀i,L.length<=i->E.loc i=none
 own:∀i k c,L[i]?=some k->k.live=true->E.loc i=some c->(∀o,E.mem c.blk o=none)/\(S0 c.blk\/w0.heap.size<=c.blk)
 inj:∀i j k k' c c',L[i]?=some k->k.live=true->L[j]?=some k'->k'.live=true->E.loc i=some c->E.loc j=some c'->c.blk=c'.blk->i=j
 tkfresh:∀i,L.length<=i->E.tok i=none
 tkown:∀i n sz t k,L[i]?=some (.spare n sz)->E.tok i=some t->t.loc=some k->(∀o,n*sz<=o->E.mem k.blk o=none)/\(S0 k.blk\/w0.heap.size<=k.blk)
 tkloc:∀i n sz t k j k' c,L[i]?=some (.spare n sz)->E.tok i=some t->t.loc=some k->L[j]?=some k'->k'.live=true->E.loc j=some c->c.blk≠k.blk
 tkinj:∀i n sz t k i' n' sz' t' k',L[i]?=some (.spare n sz)->E.tok i=some t->t.loc=some k->L[i']?=some (.spare n' sz')->E.tok i'=some t'->t'.loc=some k'->k.blk=k'.blk->i=i'
 frame:∀k,k<w0.heap.size->¬S0 k->w.heap[k]?=w0.heap[k]?
 size:w0.heap.size<=w.heap.size
 os:w.os=w0.os
 tape:w.tape=w0.tape
 output:w.output=w0.output
 glob:mw E.mem
 gsz:qz w
theorem aE.mono{E E':Env}(h:E.le E'):∀{l:List (AV×AV×Nat)}{es:List MapEntry},aE E l es->aE E' l es
 |[],_,r=>by simpa[aE]using r
 |(k,x,b)::l,es,r=>by obtain⟨e,t,h1,h2,h3,h4,h5⟩:=r;exact⟨e,t,h1,VR.mono h _ _ h2,VR.mono h _ _ h3,h4,aE.mono h h5⟩
theorem MIt.mono(h:E.le E'){m r:Option Nat}(hm:MIt E m r):MIt E' m r:=by
 cases m with
 |none=>exact hm
 |some j=>obtain⟨d,h1,h2⟩:=hm;exact⟨d,h.loc _ _ h1,h2⟩
theorem bS.mono'(h:E.le E'):∀{k:Blk},k.live=true->bS E w i k->bS E' w i k
 |.dead,q,_=>by simp[Blk.live]at q
 |.spare _ _,q,_=>by simp[Blk.live]at q
 |.cells l,_,r=>by obtain⟨c,cs,ty,fr,h1,h2,h3,h4,h5,h6⟩:=r;exact⟨c,cs,ty,fr,h.loc _ _ h1,h2,h3,h4,λj a ha=>let ⟨v,x,y⟩:=h5 j a ha;⟨v,x,VR.mono h _ _ y⟩,h6⟩
 |.map es ck,_,r=>by obtain⟨c,rs,h1,h2,h3⟩:=r;exact⟨c,rs,h.loc _ _ h1,h2,aE.mono h h3⟩
 |.miter m since seen last,_,r=>by obtain⟨c,q,h1,h2,h3,h4⟩:=r;exact⟨c,q,h.loc _ _ h1,h2,h3,h4.mono h⟩
 |.siter s pos,_,r=>by obtain⟨c,h1,h2⟩:=r;exact⟨c,h.loc _ _ h1,h2⟩
 |.lrec T n fn ps ca cb busy,_,r=>by obtain⟨c,D,tm,h1,h2,h3,h4,h5⟩:=r;exact⟨c,D,tm,h.loc _ _ h1,h2,h3,h4,λt v hv=>VR.mono h _ _ (h5 t v hv)⟩
 |.bytes l,_,r=>by obtain⟨c,cs,ty,fr,h1,h2,h3,h4,h5,h6⟩:=r;exact⟨c,cs,ty,fr,h.loc _ _ h1,h2,h3,h4,λj a ha=>let ⟨v,x,y⟩:=h5 j a ha;⟨v,x,VR.mono h _ _ y⟩,h6⟩
theorem bS.mono(h:E.le E')(hk:k.live=true)(r:bS E w i k):bS E' w i k:=by
 cases k<;>simp only[Blk.live,ajK]at hk
 all_goals exact bS.mono' h (by rfl) r
theorem bS.world(h:∀c,E.loc i=some c->w'.heap[c.blk]?=w.heap[c.blk]?)(ht:∀t c,E.tok i=some t->t.loc=some c->w'.heap[c.blk]?=w.heap[c.blk]?)(r:bS E w i k):bS E w' i k:=by
 cases k<;>simp only[bS]at r⊢
 grind
 grind
 grind
 grind
 grind
 grind
 grind
theorem bS.worldL(hk:k.live=true)(h:∀c,E.loc i=some c->w'.heap[c.blk]?=w.heap[c.blk]?)(r:bS E w i k):bS E w' i k:=by
 cases k<;>simp only[Blk.live,ajK]at hk<;>simp only[bS]at r⊢
 grind
 grind
 grind
 grind
 grind
 grind
theorem bS.still{j:Nat}(hk:k.live=false)(he:E'.tok j=E.tok i)(ht:∀t c n sz,k=.spare n sz->E.tok i=some t->t.loc=some c->w'.heap[c.blk]?=w.heap[c.blk]?)(r:bS E w i k):bS E' w' j k:=by
 cases k<;>simp only[Blk.live,akx]at hk<;>simp only[bS]at r⊢
 grind
theorem bS.loc(r:bS E w i k)(hk:k.live=true):∃c o,E.loc i=some c/\w.heap[c.blk]?=some o:=by
 cases k<;>simp only[bS,Blk.live,ajK]at r hk
 grind
 grind
 grind
 grind
 grind
 grind
def TR(E:Env)(T:Tm)(a:Act):Prop:=∀t v,ay T t=some v->VR E v (a.tmps.getD t undef)
theorem TR.mono(h:E.le E')(r:TR E T a):TR E' T a:=λt v hv=>VR.mono h _ _ (r t v hv)
theorem TR.put{d:Nat}{x:AV}(r:TR E T a)(hd:d<a.tmps.size)(hv:VR E x v):TR E ((d,x)::T) (a.put (some d) v):=by intro t y hy;simp only[ay]at hy;simp only[Act.put];split at hy;simp_all;rename_i e;have:=r t y hy;simp_all
theorem TR.weak{T':Tm}(r:TR E T a)(h:∀t v,ay T' t=some v->ay T t=some v):TR E T' a:=λt v hv=>r t v (h t v hv)
theorem Env.le_loc(c:Loc)(h:E.loc n=none):E.le {E with loc:=λi=>if i=n then some c else E.loc i}:=
 ⟨λ_ _ _ x=>x,λi d x=>by show(if i=n then some c else E.loc i)=some d;split;rename_i e;subst e;rw[h]at x;cases x;exact x,λ_ t h=>⟨t,h,.inl rfl⟩⟩
theorem Oq{o:Obj}(h:w.cell? ⟨b,i,none⟩=some v):World.cell? {w with heap:=w.heap.push o} ⟨b,i,none⟩=some v:=by
 simp only[World.cell?]at h⊢
 grind
theorem Rel.mem_lt(h:Rel w0 S0 E L w){o:Nat}(hm:E.mem b o=some v):b<w.heap.size:=by have:=h.mem _ _ _ hm;rcases ajT b w.heap.size with hb|hb;omega;simp[World.cell?,Array.getElem?_eq_none hb]at this
theorem Rel.loc_lt(h:Rel w0 S0 E L w)(hk:L[i]?=some k)(hl:k.live=true)(hc:E.loc i=some c):c.blk<w.heap.size:=by
 obtain⟨c',o,h1,h2⟩:=(h.blk i k hk).loc hl
 grind
theorem Rel.tok_lt(h:Rel w0 S0 E L w){t:Tok}(hk:L[i]?=some (.spare n sz))(ht:E.tok i=some t)(hc:t.loc=some c):c.blk<w.heap.size:=by
 obtain⟨t',h1,_,_,h2⟩:=h.blk i _ hk
 grind
theorem gy(hk:k.live=true)(h:(L++[k])[i]?=some (.spare n sz)):L[i]?=some (.spare n sz):=by
 rw[akT]at h;split at h;omega;rcases ajT (i-L.length) 1 with h1|h1;have:i-L.length=0:=amM;rw[this]at h;simp at h;subst h;simp[Blk.live]at hk
 grind
theorem fp(hk:∀n sz,k≠.spare n sz){j:Nat}(h:(L.set i k)[j]?=some (.spare n sz)):L[j]?=some (.spare n sz):=by grind
theorem Rel.push(h:Rel w0 S0 E L w)(o:Obj)(k:Blk)(c:Loc)(hc:c.blk=w.heap.size)(hlv:k.live=true)(hb:bS {E with loc:=λi=>if i=L.length then some c else E.loc i} {w with heap:=w.heap.push o} L.length k):
  E.le {E with loc:=λi=>if i=L.length then some c else E.loc i} /\
  Rel w0 S0 {E with loc:=λi=>if i=L.length then some c else E.loc i} (L++[k]) {w with heap:=w.heap.push o}:=by
 have hn:E.loc L.length=none:=h.fresh _ (ajs _);have hle:=Env.le_loc c hn;have hold:∀(i:Nat) (k':Blk),L[i]?=some k'->i≠L.length:=λi k' e=>by grind
 have htk:∀i n sz t d,(L++[k])[i]?=some (.spare n sz)->E.tok i=some t->t.loc=some d->L[i]?=some (.spare n sz)/\d.blk<w.heap.size:=λi n sz t d hi ht hd=>⟨gy hlv hi,h.tok_lt (gy hlv hi) ht hd⟩
 refine⟨hle,⟨λb o' v hv=>Oq (h.mem b o' v hv),?_,?_,?_,?_,λi hi=>h.tkfresh i (by simp at hi;omega),λi n sz t d hi ht hd=>h.tkown i n sz t d (gy hlv hi) ht hd,?_,
  λi n sz t d i' n' sz' t' d' hi ht hd hi' ht' hd' e=>h.tkinj i n sz t d i' n' sz' t' d' (gy hlv hi) ht hd (gy hlv hi') ht' hd' e,?_,?_,h.os,h.tape,h.output,h.glob,h.gsz.push o⟩⟩
 intro i k' hk;rw[akT]at hk;split at hk;have h1:=h.blk i k' hk;rcases hl:k'.live with _|_;exact bS.still (E:=E) hl rfl (λt d n sz e ht hd=>akU (h.tok_lt (e▸hk) ht hd) |>.trans (akq _).symm) h1;refine bS.worldL hl (λd hd=>?_) (bS.mono hle hl h1);have hd':E.loc i=some d:=by simp_all
 exact akU (h.loc_lt hk hl hd') |>.trans (akq _).symm
 grind
 intro i hi;simp at hi;show(if i=L.length then some c else E.loc i)=none;rw[if_neg amM];exact h.fresh i amM;intro i k' d hk hl hd;have hd:(if i=L.length then some c else E.loc i)=some d:=hd;split at hd;cases hd;refine⟨λo'=>?_,.inr (by have:=h.size;omega)⟩;rcases hm:E.mem c.blk o' with _|v;rfl;have:=h.mem_lt hm;omega;rename_i hi;rw[akT]at hk;split at hk;exact h.own i k' d hk hl hd;rename_i hi';rcases ajT (i-L.length) 1 with h1|h1;omega;rw[alt (by simpa using h1)]at hk;cases hk;intro i j k1 k2 c1 c2 hi hl hj hl' hc1 hc2 he;have hc1:(if i=L.length then some c else E.loc i)=some c1:=hc1;have hc2:(if j=L.length then some c else E.loc j)=some c2:=hc2;have old:∀(i:Nat) (k':Blk),(L++[k])[i]?=some k'->i≠L.length->L[i]?=some k':=λi k' hk hne=>by rw[akT]at hk;split at hk;exact hk;rw[alt (by simp;omega)]at hk;cases hk
 by_cases ei:i=L.length<;>by_cases ej:j=L.length;omega;rw[if_pos ei]at hc1;rw[if_neg ej]at hc2;cases hc1;have:=h.loc_lt (old j k2 hj ej) hl' hc2;omega;rw[if_neg ei]at hc1;rw[if_pos ej]at hc2;cases hc2;have:=h.loc_lt (old i k1 hi ei) hl hc1;omega;rw[if_neg ei]at hc1;rw[if_neg ej]at hc2;exact h.inj i j k1 k2 c1 c2 (old i k1 hi ei) hl (old j k2 hj ej) hl' hc1 hc2 he;intro i n sz t d j k' c' hi ht hd hj hl hc';have hc':(if j=L.length then some c else E.loc j)=some c':=hc';obtain⟨hi',hlt⟩:=htk i n sz t d hi ht hd;split at hc';cases hc';omega;rename_i hne;rw[akT]at hj;split at hj;exact h.tkloc i n sz t d j k' c' hi' ht hd hj hl hc';rw[alt (by simp;omega)]at hj;cases hj;intro k' hk' hs;have:=h.frame k' hk' hs;rw[<- this];exact akU (akK hk' h.size) |>.trans (akq _).symm;simp;have:=h.size;omega
theorem Rel.turn{k':Blk}(h:Rel w0 S0 E L w)(hk:L[i]?=some k)(hl:k.live=true)(hc:E.loc i=some c)(hs:w'.heap.size=w.heap.size)(ho:∀b,b≠c.blk->w'.heap[b]?=w.heap[b]?)(e1:w'.os=w.os)(e2:w'.tape=w.tape)(e3:w'.output=w.output)(hb:bS E w' i k')(hns:∀n sz,k'≠.spare n sz):Rel w0 S0 E (L.set i k') w':=by
 have hi:i<L.length:=(ajr.1 hk).1;have hown:=h.own i k c hk hl hc;refine⟨λb o v hv=>?_,?_,λj hj=>h.fresh j (by simpa using hj),?_,?_,λj hj=>h.tkfresh j (by simpa using hj),λj n sz t d hj=>h.tkown j n sz t d (fp hns hj),λj n sz t d j2 k2 d2 hj ht hd hj2 hl2 hd2=>?_,
  λj n sz t d j' n' sz' t' d' hj ht hd hj'=>h.tkinj j n sz t d j' n' sz' t' d' (fp hns hj) ht hd (fp hns hj'),?_,by rw[hs];exact h.size,e1.trans h.os,e2.trans h.tape,e3.trans h.output,h.glob,h.gsz.keep h.glob (λb ⟨v,hv⟩=>ho b λe=>by subst e;rw[hown.1 0]at hv;cases hv)⟩
 have hne:b≠c.blk:=λe=>by subst e;rw[hown.1 o]at hv;cases hv
 have:=h.mem b o v hv;simp only[World.cell?]at this⊢;simp_all;intro j k2 hj;rw[aj1]at hj;split at hj;simp_all;rename_i hne;rcases hl2:k2.live with _|_;exact bS.still hl2 rfl (λt d n sz e ht hd=>ho d.blk λe'=>h.tkloc j n sz t d i k c (e▸hj) ht hd hk hl hc e'.symm) (h.blk j k2 hj);exact bS.worldL hl2 (λd hd=>ho d.blk λe=>hne (h.inj i j k k2 c d hk hl hj hl2 hc hd e.symm)) (h.blk j k2 hj);intro j k2 d hj hl2 hd;rw[aj1]at hj;split at hj;simp_all;exact h.own j k2 d hj hl2 hd;intro j1 j2 k1 k2 d1 d2 h1 l1 h2 l2 hd1 hd2 he;have fix:∀(j:Nat) (k2:Blk),(L.set i k')[j]?=some k2->k2.live=true->∃k3:Blk,L[j]?=some k3/\k3.live=true:=λj k2 hj l=>by grind
 obtain⟨k3,a1,b1⟩:=fix j1 k1 h1 l1;obtain⟨k4,a2,b2⟩:=fix j2 k2 h2 l2;exact h.inj j1 j2 k3 k4 d1 d2 a1 b1 a2 b2 hd1 hd2 he;rw[aj1]at hj2;split at hj2;rename_i e;subst e;exact h.tkloc j n sz t d i k d2 (fp hns hj) ht hd hk hl hd2;exact h.tkloc j n sz t d j2 k2 d2 (fp hns hj) ht hd hj2 hl2 hd2;intro b hb' hs';rw[ho b];exact h.frame b hb' hs'
 grind
theorem Rel.add(h:Rel w0 S0 E L w)(k:Blk)(c:Loc)(hm:∀o,E.mem c.blk o=none)(hS:S0 c.blk\/w0.heap.size<=c.blk)(hne:∀(j:Nat) (k':Blk) (d:Loc),L[j]?=some k'->k'.live=true->E.loc j=some d->d.blk≠c.blk)(hlv:k.live=true)(hnt:∀i n sz t d,L[i]?=some (.spare n sz)->E.tok i=some t->t.loc=some d->c.blk≠d.blk)(hb:bS {E with loc:=λi=>if i=L.length then some c else E.loc i} w L.length k):
  E.le {E with loc:=λi=>if i=L.length then some c else E.loc i}/\Rel w0 S0 {E with loc:=λi=>if i=L.length then some c else E.loc i} (L++[k]) w:=by
 have hn:E.loc L.length=none:=h.fresh _ (ajs _);have hle:=Env.le_loc c hn;have old:∀(i:Nat) (k':Blk),(L++[k])[i]?=some k'->i≠L.length->L[i]?=some k':=λi k' hk hne=>by grind
 refine⟨hle,⟨h.mem,λi k' hk=>?_,λi hi=>?_,λi k' d hk hl hd=>?_,λi j k1 k2 c1 c2 hi hl hj hl' hc1 hc2 he=>?_,λi hi=>h.tkfresh i (by simp at hi;omega),λi n sz t d hi=>h.tkown i n sz t d (gy hlv hi),λi n sz t d j k' c' hi ht hd hj hl hc'=>?_,
  λi n sz t d i' n' sz' t' d' hi ht hd hi'=>h.tkinj i n sz t d i' n' sz' t' d' (gy hlv hi) ht hd (gy hlv hi'),h.frame,h.size,h.os,h.tape,h.output,h.glob,h.gsz⟩⟩
 by_cases e:i=L.length;simp_all;rcases hl:k'.live with _|_;exact bS.still (E:=E) hl rfl (λ_ _ _ _ _ _ _=>rfl) (h.blk i k' (old i k' hk e));exact bS.mono hle hl (h.blk i k' (old i k' hk e));simp at hi;show(if i=L.length then some c else E.loc i)=none;rw[if_neg amM];exact h.fresh i amM;have hd:(if i=L.length then some c else E.loc i)=some d:=hd;by_cases e:i=L.length;simp_all;rw[if_neg e]at hd;exact h.own i k' d (old i k' hk e) hl hd;have hc1:(if i=L.length then some c else E.loc i)=some c1:=hc1;have hc2:(if j=L.length then some c else E.loc j)=some c2:=hc2;by_cases ei:i=L.length<;>by_cases ej:j=L.length;omega;rw[if_pos ei]at hc1;rw[if_neg ej]at hc2;cases hc1;exact absurd he.symm (hne j k2 c2 (old j k2 hj ej) hl' hc2);rw[if_neg ei]at hc1;rw[if_pos ej]at hc2;cases hc2;exact absurd he (hne i k1 c1 (old i k1 hi ei) hl hc1);rw[if_neg ei]at hc1;rw[if_neg ej]at hc2;exact h.inj i j k1 k2 c1 c2 (old i k1 hi ei) hl (old j k2 hj ej) hl' hc1 hc2 he;have hc':(if j=L.length then some c else E.loc j)=some c':=hc';by_cases e:j=L.length;rw[if_pos e]at hc';cases hc';exact hnt i n sz t d (gy hlv hi) ht hd;rw[if_neg e]at hc';exact h.tkloc i n sz t d j k' c' (gy hlv hi) ht hd (old j k' hj e) hl hc'
theorem Rel.kill(h:Rel w0 S0 E L w)(hlen:L'.length=L.length)(hsub:∀(i:Nat) (k:Blk),L'[i]?=some k->k=.dead\/L[i]?=some k):Rel w0 S0 E L' w:=by
 have fix:∀(i:Nat) (k:Blk),L'[i]?=some k->k.live=true->L[i]?=some k:=λi k hk hl=>by rcases hsub i k hk with e|e;subst e;simp[Blk.live]at hl;omega
 have fixs:∀(i n sz:Nat),L'[i]?=some (.spare n sz)->L[i]?=some (.spare n sz):=λi n sz hk=>by grind
 refine⟨h.mem,λi k hk=>?_,λi hi=>h.fresh i amM,λi k c hk hl hc=>h.own i k c (fix i k hk hl) hl hc,λi j k k' c c' hi li hj lj=>h.inj i j k k' c c' (fix i k hi li) li (fix j k' hj lj) lj,
  λi hi=>h.tkfresh i amM,λi n sz t d hi=>h.tkown i n sz t d (fixs i n sz hi),λi n sz t d j k' c' hi ht hd hj hl=>h.tkloc i n sz t d j k' c' (fixs i n sz hi) ht hd (fix j k' hj hl) hl,
  λi n sz t d i' n' sz' t' d' hi ht hd hi'=>h.tkinj i n sz t d i' n' sz' t' d' (fixs i n sz hi) ht hd (fixs i' n' sz' hi'),h.frame,h.size,h.os,h.tape,h.output,h.glob,h.gsz⟩
 rcases hsub i k hk with e|e;subst e;simp[bS];exact h.blk i k e
mutual
def AV.refs(p:Nat->Bool):AV->Bool
 |.ptr i _=>p i
 |.iptr l _=>AV.refsL p l
 |.sl l _ _=>AV.refsL p l
 |.lsl i _ _ _ _=>p i
 |.gsl l _ i _=>p i&&AV.refsL p l
 |.lmap i=>p i
 |.yld i=>p i
 |.func _ caps=>AV.refsL p caps
 |.iface _ a=>AV.refs p a
 |.agg l=>AV.refsL p l
 |.tup l=>AV.refsL p l
 |_=>true
def AV.refsL(p:Nat->Bool):List AV->Bool
 |[]=>true
 |a::l=>AV.refs p a&&AV.refsL p l
end
theorem AV.refsL_iff{p:Nat->Bool}:∀{l:List AV},AV.refsL p l=true↔∀a∈l,AV.refs p a=true
 |[]=>by simp[AV.refsL]
 |a::l=>by simp[AV.refsL,AV.refsL_iff (l:=l)]
mutual
theorem VR.cut{E E':Env}{p:Nat->Bool}(hm:∀b o v,E.mem b o=some v->E'.mem b o=some v)(hl:∀i c,p i=true->E.loc i=some c->E'.loc i=some c)(ht:∀i t,p i=true->E.tok i=some t->E'.tok i=some t):
  ∀(a:AV) (v:Value),a.refs p=true->VR E a v->VR E' a v
 |.undef,_,_,_=>by simp[VR]
 |.bool _,_,_,r=>by simpa[VR]using r
 |.anyb,_,_,r=>by simpa[VR]using r
 |.int _ _,_,_,r=>by simpa[VR]using r
 |.str _,_,_,r=>by simpa[VR]using r
 |.nilptr,_,_,r=>by simpa[VR]using r
 |.gptr _ _,_,_,r=>by simpa[VR]using r
 |.ptr i off,v,q,r=>by simp only[VR,AV.refs]at q r⊢;obtain⟨c,h1,h2⟩:=r;exact⟨c,hl _ _ q h1,h2⟩
 |.iptr l off,v,q,r=>by simp only[VR,AV.refs]at q r⊢;obtain⟨b,o,h1,h2⟩:=r;exact⟨b,o,h1,VRC.cut hm hl ht l b o q h2⟩
 |.nilsl,_,_,r=>by simpa[VR]using r
 |.sl l n cap,v,q,r=>by simp only[VR,AV.refs]at q r⊢;obtain⟨p,c,h1,h2,h3,h4⟩:=r;exact⟨p,c,h1,h2,h3,h4.imp id λ⟨b,o,h5,h6⟩=>⟨b,o,h5,VRC.cut hm hl ht l b o q h6⟩⟩
 |.gsl l n i sz,v,q,r=>by simp only[VR,AV.refs,ajv]at q r⊢;obtain⟨p,c,h1,h2,h3,h4,t,h5,h6⟩:=r;exact⟨p,c,h1,h2,h3,h4.imp id λ⟨b,o,h7,h8⟩=>⟨b,o,h7,VRC.cut hm hl ht l b o q.2 h8⟩,t,ht _ _ q.1 h5,h6⟩
 |.lsl i off len cap sz,v,q,r=>by simp only[VR,AV.refs]at q r⊢;obtain⟨c,rc,d,h1,h2⟩:=r;exact⟨c,rc,d,hl _ _ q h1,h2⟩
 |.nilmap,_,_,r=>by simpa[VR]using r
 |.lmap i,v,q,r=>by simp only[VR,AV.refs]at q r⊢;obtain⟨c,h1,h2⟩:=r;exact⟨c,hl _ _ q h1,h2⟩
 |.yld i,v,q,r=>by simp only[VR,AV.refs]at q r⊢;obtain⟨c,h1,h2⟩:=r;exact⟨c,hl _ _ q h1,h2⟩
 |.func f caps,v,q,r=>by simp only[VR,AV.refs]at q r⊢;obtain⟨vs,h1,h2⟩:=r;exact⟨vs,h1,VRL.cut hm hl ht caps vs q h2⟩
 |.nilfunc,_,_,r=>by simpa[VR]using r
 |.nilif,_,_,r=>by simpa[VR]using r
 |.iface t a,v,q,r=>by simp only[VR,AV.refs]at q r⊢;obtain⟨x,h1,h2⟩:=r;exact⟨x,h1,VR.cut hm hl ht a x q h2⟩
 |.agg l,v,q,r=>by simp only[VR,AV.refs]at q r⊢;obtain⟨vs,h1,h2⟩:=r;exact⟨vs,h1,VRL.cut hm hl ht l vs q h2⟩
 |.tup l,v,q,r=>by simp only[VR,AV.refs]at q r⊢;obtain⟨vs,h1,h2⟩:=r;exact⟨vs,h1,VRL.cut hm hl ht l vs q h2⟩
theorem VRL.cut{E E':Env}{p:Nat->Bool}(hm:∀b o v,E.mem b o=some v->E'.mem b o=some v)(hl:∀i c,p i=true->E.loc i=some c->E'.loc i=some c)(ht:∀i t,p i=true->E.tok i=some t->E'.tok i=some t):
  ∀(l:List AV) (vs:List Value),AV.refsL p l=true->VRL E l vs->VRL E' l vs
 |[],_,_,r=>by simpa[VRL]using r
 |a::l,vs,q,r=>by simp only[VRL,AV.refsL,ajv]at q r⊢;obtain⟨x,xs,h1,h2,h3⟩:=r;exact⟨x,xs,h1,VR.cut hm hl ht a x q.1 h2,VRL.cut hm hl ht l xs q.2 h3⟩
theorem VRC.cut{E E':Env}{p:Nat->Bool}(hm:∀b o v,E.mem b o=some v->E'.mem b o=some v)(hl:∀i c,p i=true->E.loc i=some c->E'.loc i=some c)(ht:∀i t,p i=true->E.tok i=some t->E'.tok i=some t):
  ∀(l:List AV) (b o:Nat),AV.refsL p l=true->VRC E l b o->VRC E' l b o
 |[],_,_,_,_=>by simp[VRC]
 |a::l,b,o,q,r=>by simp only[VRC,AV.refsL,ajv]at q r⊢;obtain⟨⟨x,h1,h2⟩,h3⟩:=r;exact⟨⟨x,hm _ _ _ h1,VR.cut hm hl ht a x q.1 h2⟩,VRC.cut hm hl ht l b (o+1) q.2 h3⟩
end
mutual
def AV.ren(f:Nat->Nat):AV->AV
 |.ptr i o=>.ptr (f i) o
 |.iptr l o=>.iptr (AV.renL f l) o
 |.sl l n c=>.sl (AV.renL f l) n c
 |.lsl i o n c s=>.lsl (f i) o n c s
 |.gsl l n i s=>.gsl (AV.renL f l) n (f i) s
 |.lmap i=>.lmap (f i)
 |.yld i=>.yld (f i)
 |.func g caps=>.func g (AV.renL f caps)
 |.iface t a=>.iface t (AV.ren f a)
 |.agg l=>.agg (AV.renL f l)
 |.tup l=>.tup (AV.renL f l)
 |a=>a
def AV.renL(f:Nat->Nat):List AV->List AV
 |[]=>[]
 |a::l=>AV.ren f a::AV.renL f l
end
theorem AV.renL_eq{f:Nat->Nat}:∀{l:List AV},AV.renL f l=l.map (AV.ren f)
 |[]=>rfl
 |a::l=>by simp[AV.renL,AV.renL_eq (l:=l)]
mutual
theorem VR.ren{E E':Env}{p:Nat->Bool}{f:Nat->Nat}(hm:∀b o v,E.mem b o=some v->E'.mem b o=some v)(hl:∀i c,p i=true->E.loc i=some c->E'.loc (f i)=some c)(ht:∀i t,p i=true->E.tok i=some t->E'.tok (f i)=some t):
  ∀(a:AV) (v:Value),a.refs p=true->VR E a v->VR E' (a.ren f) v
 |.undef,_,_,_=>by simp[VR,AV.ren]
 |.bool _,_,_,r=>by simpa[VR,AV.ren]using r
 |.anyb,_,_,r=>by simpa[VR,AV.ren]using r
 |.int _ _,_,_,r=>by simpa[VR,AV.ren]using r
 |.str _,_,_,r=>by simpa[VR,AV.ren]using r
 |.nilptr,_,_,r=>by simpa[VR,AV.ren]using r
 |.gptr _ _,_,_,r=>by simpa[VR,AV.ren]using r
 |.ptr i off,v,q,r=>by simp only[VR,AV.ren,AV.refs]at q r⊢;obtain⟨c,h1,h2⟩:=r;exact⟨c,hl _ _ q h1,h2⟩
 |.iptr l off,v,q,r=>by simp only[VR,AV.ren,AV.refs]at q r⊢;obtain⟨b,o,h1,h2⟩:=r;exact⟨b,o,h1,VRC.ren hm hl ht l b o q h2⟩
 |.nilsl,_,_,r=>by simpa[VR,AV.ren]using r
 |.sl l n cap,v,q,r=>by simp only[VR,AV.ren,AV.refs]at q r⊢;obtain⟨p,c,h1,h2,h3,h4⟩:=r;exact⟨p,c,h1,h2,h3,h4.imp (λ⟨a1,a2,a3⟩=>⟨a1,a2,by subst a3;rfl⟩) λ⟨b,o,h5,h6⟩=>⟨b,o,h5,VRC.ren hm hl ht l b o q h6⟩⟩
 |.gsl l n i sz,v,q,r=>by simp only[VR,AV.refs,AV.ren,ajv]at q r⊢;obtain⟨p,c,h1,h2,h3,h4,t,h5,h6⟩:=r;exact⟨p,c,h1,h2,by rw[AV.renL_eq];simpa using h3,h4.imp (λ⟨a1,a2,a3⟩=>⟨a1,a2,by subst a3;rfl⟩) λ⟨b,o,h7,h8⟩=>⟨b,o,h7,VRC.ren hm hl ht l b o q.2 h8⟩,t,ht _ _ q.1 h5,h6⟩
 |.lsl i off len cap sz,v,q,r=>by simp only[VR,AV.ren,AV.refs]at q r⊢;obtain⟨c,rc,d,h1,h2⟩:=r;exact⟨c,rc,d,hl _ _ q h1,h2⟩
 |.nilmap,_,_,r=>by simpa[VR,AV.ren]using r
 |.lmap i,v,q,r=>by simp only[VR,AV.ren,AV.refs]at q r⊢;obtain⟨c,h1,h2⟩:=r;exact⟨c,hl _ _ q h1,h2⟩
 |.yld i,v,q,r=>by simp only[VR,AV.ren,AV.refs]at q r⊢;obtain⟨c,h1,h2⟩:=r;exact⟨c,hl _ _ q h1,h2⟩
 |.func g caps,v,q,r=>by simp only[VR,AV.ren,AV.refs]at q r⊢;obtain⟨vs,h1,h2⟩:=r;exact⟨vs,h1,VRL.ren hm hl ht caps vs q h2⟩
 |.nilfunc,_,_,r=>by simpa[VR,AV.ren]using r
 |.nilif,_,_,r=>by simpa[VR,AV.ren]using r
 |.iface t a,v,q,r=>by simp only[VR,AV.ren,AV.refs]at q r⊢;obtain⟨x,h1,h2⟩:=r;exact⟨x,h1,VR.ren hm hl ht a x q h2⟩
 |.agg l,v,q,r=>by simp only[VR,AV.ren,AV.refs]at q r⊢;obtain⟨vs,h1,h2⟩:=r;exact⟨vs,h1,VRL.ren hm hl ht l vs q h2⟩
 |.tup l,v,q,r=>by simp only[VR,AV.ren,AV.refs]at q r⊢;obtain⟨vs,h1,h2⟩:=r;exact⟨vs,h1,VRL.ren hm hl ht l vs q h2⟩
theorem VRL.ren{E E':Env}{p:Nat->Bool}{f:Nat->Nat}(hm:∀b o v,E.mem b o=some v->E'.mem b o=some v)(hl:∀i c,p i=true->E.loc i=some c->E'.loc (f i)=some c)(ht:∀i t,p i=true->E.tok i=some t->E'.tok (f i)=some t):
  ∀(l:List AV) (vs:List Value),AV.refsL p l=true->VRL E l vs->VRL E' (AV.renL f l) vs
 |[],_,_,r=>by simpa[VRL,AV.renL]using r
 |a::l,vs,q,r=>by simp only[VRL,AV.refsL,AV.renL,ajv]at q r⊢;obtain⟨x,xs,h1,h2,h3⟩:=r;exact⟨x,xs,h1,VR.ren hm hl ht a x q.1 h2,VRL.ren hm hl ht l xs q.2 h3⟩
theorem VRC.ren{E E':Env}{p:Nat->Bool}{f:Nat->Nat}(hm:∀b o v,E.mem b o=some v->E'.mem b o=some v)(hl:∀i c,p i=true->E.loc i=some c->E'.loc (f i)=some c)(ht:∀i t,p i=true->E.tok i=some t->E'.tok (f i)=some t):
  ∀(l:List AV) (b o:Nat),AV.refsL p l=true->VRC E l b o->VRC E' (AV.renL f l) b o
 |[],_,_,_,_=>by simp[VRC,AV.renL]
 |a::l,b,o,q,r=>by simp only[VRC,AV.refsL,AV.renL,ajv]at q r⊢;obtain⟨⟨x,h1,h2⟩,h3⟩:=r;exact⟨⟨x,hm _ _ _ h1,VR.ren hm hl ht a x q.1 h2⟩,VRC.ren hm hl ht l b (o+1) q.2 h3⟩
end
theorem Rel.snap(h:Rel w0 S0 E L w)(hi:L[i]?=some (.cells l))(hc:E.loc i=some c):
  ∃E',E.le E'/\Rel w0 S0 E' (L.set i .dead) w/\VRC E' l c.blk c.off/\E'.loc=E.loc:=by
 obtain⟨c',cs,ty,fr,h1,h2,h3,h4,h5,h6⟩:=h.blk i _ hi;rw[hc]at h1;cases h1;have hown:=h.own i _ c hi rfl hc;have hle:E.le {E with mem:=λb o=>if b=c.blk/\c.off<=o/\o<c.off+l.length then w.cell? ⟨b,o,none⟩else E.mem b o}:=by
  refine⟨λb o v hv=>?_,λ_ _ x=>x,λ_ t h=>⟨t,h,.inl rfl⟩⟩
  grind
 refine⟨{E with mem:=λb o=>if b=c.blk/\c.off<=o/\o<c.off+l.length then w.cell? ⟨b,o,none⟩else E.mem b o},hle,?_,?_,rfl⟩;have fix:∀(j:Nat) (k:Blk),(L.set i .dead)[j]?=some k->k.live=true->j≠i/\L[j]?=some k:=λj k hk hl=>by
  rw[aj1]at hk;split at hk;split at hk;cases hk;simp[Blk.live]at hl;simp_all
  grind
 refine⟨λb o v hv=>?_,λj k hk=>?_,λj hj=>h.fresh j (by simpa using hj),λj k d hk hl hd=>?_,λj j' k k' d d' hj lj hj' lj'=>h.inj j j' k k' d d' (fix j k hj lj).2 lj (fix j' k' hj' lj').2 lj',
  λj hj=>h.tkfresh j (by simpa using hj),λj n sz t d hj ht hd=>⟨λo ho=>?_,(h.tkown j n sz t d (fp amN hj) ht hd).2⟩,λj n sz t d j' k' c' hj ht hd hj' hl=>h.tkloc j n sz t d j' k' c' (fp amN hj) ht hd (fix j' k' hj' hl).2 hl,
  λj n sz t d j' n' sz' t' d' hj ht hd hj'=>h.tkinj j n sz t d j' n' sz' t' d' (fp amN hj) ht hd (fp amN hj'),h.frame,h.size,h.os,h.tape,h.output,h.glob.mono hle.mem,h.gsz⟩
 have hv:(if b=c.blk/\c.off<=o/\o<c.off+l.length then w.cell? ⟨b,o,none⟩else E.mem b o)=some v:=hv;split at hv;exact hv;exact h.mem b o v hv;rcases hl:k.live with _|_;rw[aj1]at hk;split at hk;split at hk;cases hk;simp[bS];cases hk;exact bS.still (E:=E) hl rfl (λ_ _ _ _ _ _ _=>rfl) (h.blk j k hk);exact bS.mono hle hl (h.blk j k (fix j k hk hl).2);obtain⟨hne,hj⟩:=fix j k hk hl;have hd:E.loc j=some d:=hd;refine⟨λo=>?_,(h.own j k d hj hl hd).2⟩;show(if d.blk=c.blk/\c.off<=o/\o<c.off+l.length then w.cell? ⟨d.blk,o,none⟩else E.mem d.blk o)=none;rw[if_neg λe=>hne (h.inj j i k _ d c hj hl hi rfl hd hc e.1)];exact(h.own j k d hj hl hd).1 o;have hj':=fp amN hj;show(if d.blk=c.blk/\c.off<=o/\o<c.off+l.length then w.cell? ⟨d.blk,o,none⟩else E.mem d.blk o)=none;rw[if_neg λe=>h.tkloc j n sz t d i _ c hj' ht hd hi rfl hc e.1.symm];exact(h.tkown j n sz t d hj' ht hd).1 o ho;refine VRC.of_get λj a ha=>?_
 obtain⟨v,h7,h8⟩:=h5 j a ha;have hlt:j<l.length:=(ajr.1 ha).1;refine⟨v,?_,VR.mono hle _ _ h8⟩;show(if c.blk=c.blk/\c.off<=c.off+j/\c.off+j<c.off+l.length then w.cell? ⟨c.blk,c.off+j,none⟩else E.mem c.blk (c.off+j))=some v;rw[if_pos ⟨rfl,amM,amM⟩];simp[World.cell?,h2,h7]
theorem Rel.imm(h:Rel w0 S0 E L w)(cs:List Value)(ty:TypeId)(l:List AV)(hl:VRL E l cs)(extra:List Value)(fr:Nat×Nat):
  ∃E',E.le E'/\Rel w0 S0 E' L {w with heap:=w.heap.push (.cells ⟨cs++extra⟩ ty fr)}/\VRC E' l w.heap.size 0/\E'.loc=E.loc:=by
 have hle:E.le {E with mem:=λb o=>if b=w.heap.size then cs[o]? else E.mem b o}:=by refine⟨λb o v hv=>?_,λ_ _ x=>x,λ_ t h=>⟨t,h,.inl rfl⟩⟩;show(if b=w.heap.size then cs[o]? else E.mem b o)=some v;rw[if_neg (by have:=h.mem_lt hv;omega)];exact hv
 refine⟨{E with mem:=λb o=>if b=w.heap.size then cs[o]? else E.mem b o},hle,?_,?_,rfl⟩;refine⟨λb o v hv=>?_,λj k hk=>?_,h.fresh,λj k d hk hl hd=>?_,h.inj,h.tkfresh,λj n sz t d hj ht hd=>⟨λo ho=>?_,(h.tkown j n sz t d hj ht hd).2⟩,h.tkloc,h.tkinj,λk hk hs=>?_,?_,h.os,h.tape,h.output,h.glob.mono hle.mem,h.gsz.push _⟩;replace hv:(if b=w.heap.size then cs[o]? else E.mem b o)=some v:=hv;by_cases e:b=w.heap.size;rw[if_pos e]at hv;subst e;have hlt:o<cs.length:=(ajr.1 hv).1;simp[World.cell?,akT,hlt];simp_all;rw[if_neg e]at hv;exact Oq (h.mem b o v hv);rcases hl:k.live with _|_;exact bS.still (E:=E) hl rfl (λt d n sz e ht hd=>akU (h.tok_lt (e▸hk) ht hd) |>.trans (akq _).symm) (h.blk j k hk);refine bS.worldL hl (λd hd=>?_) (bS.mono hle hl (h.blk j k hk));exact akU (h.loc_lt hk hl hd) |>.trans (akq _).symm;refine⟨λo=>?_,(h.own j k d hk hl hd).2⟩;show(if d.blk=w.heap.size then cs[o]? else E.mem d.blk o)=none;rw[if_neg (by have:=h.loc_lt hk hl hd;omega)];exact(h.own j k d hk hl hd).1 o;show(if d.blk=w.heap.size then cs[o]? else E.mem d.blk o)=none;rw[if_neg (by have:=h.tok_lt hj ht hd;omega)];exact(h.tkown j n sz t d hj ht hd).1 o ho;rw[<- h.frame k hk hs];exact akU (akK hk h.size) |>.trans (akq _).symm;simp;have:=h.size;omega;refine VRC.of_get λj a ha=>?_
 obtain⟨v,h1,h2⟩:=hl.get ha;refine⟨v,?_,VR.mono hle _ _ h2⟩;simp[*]
def Ro(E:Env)(L:List Blk)(b:Nat):Prop:=(∃i k c,L[i]?=some k/\k.live=true/\E.loc i=some c/\c.blk=b)\/∃i n sz t c,L[i]?=some (.spare n sz)/\E.tok i=some t/\t.loc=some c/\c.blk=b
theorem Rel.enter(h:Rel w0 S0 E L w)(B:Nat:=0):Rel w ⟨Ro E L,B⟩ E L w :=
 ⟨h.mem,h.blk,h.fresh,λi k c hk hl hc=>⟨(h.own i k c hk hl hc).1,.inl (.inl ⟨i,k,c,hk,hl,hc,rfl⟩)⟩,h.inj,h.tkfresh,λi n sz t c hi ht hc=>⟨(h.tkown i n sz t c hi ht hc).1,.inl (.inr ⟨i,n,sz,t,c,hi,ht,hc,rfl⟩)⟩,h.tkloc,h.tkinj,λ_ _ _=>rfl,ajs _,rfl,rfl,rfl,h.glob,h.gsz⟩
theorem Rel.back{B:Nat}(h:Rel w0 S0 E L w)(k:Rel w ⟨Ro E L,B⟩ E' L' w'):Rel w0 S0 E' L' w':=by
 have key:∀b,Ro E L b->S0 b\/w0.heap.size<=b:=λb hb=>by rcases hb with⟨i,k,c,h1,h2,h3,h4⟩|⟨i,n,sz,t,c,h1,h2,h3,h4⟩;exact h4▸(h.own i k c h1 h2 h3).2;exact h4▸(h.tkown i n sz t c h1 h2 h3).2
 refine⟨k.mem,k.blk,k.fresh,λi x c hx hl hc=>⟨(k.own i x c hx hl hc).1,?_⟩,k.inj,k.tkfresh,λi n sz t c hi ht hc=>⟨(k.tkown i n sz t c hi ht hc).1,?_⟩,k.tkloc,k.tkinj,λb hb hs=>?_,ajU h.size k.size,k.os.trans h.os,k.tape.trans h.tape,k.output.trans h.output,k.glob,k.gsz⟩;rcases(k.own i x c hx hl hc).2 with h1|h1;simp_all;exact .inr (ajU h.size h1);rcases(k.tkown i n sz t c hi ht hc).2 with h1|h1;simp_all;exact .inr (ajU h.size h1);rw[k.frame b (akK hb h.size) λho=>(key b ho).elim hs (λh1=>amM),h.frame b hb hs]
def Env.res(E:Env)(n:Nat)(g:Nat->Nat):Env:={mem:=E.mem,loc:=λi=>if i<n then E.loc (g i)else none,tok:=λi=>if i<n then E.tok (g i)else none}
theorem Env.res_loc{g:Nat->Nat}(h:i<n):(E.res n g).loc i=E.loc (g i):=by simp[Env.res,h]
theorem Env.res_tok{g:Nat->Nat}(h:i<n):(E.res n g).tok i=E.tok (g i):=by simp[Env.res,h]
theorem Rel.renum(h:Rel w0 S0 E L w)(g:Nat->Nat)(hinj:∀i j,i<L'.length->j<L'.length->g i=g j->i=j)(hs:∀(i n sz:Nat),L'[i]?=some (.spare n sz)->L[g i]?=some (.spare n sz))(hb:∀(i:Nat) (k:Blk),L'[i]?=some k->k.live=true->∃k0:Blk,L[g i]?=some k0/\k0.live=true/\bS (E.res L'.length g) w i k):
  Rel w0 S0 (E.res L'.length g) L' w:=by
 have lt:∀(i:Nat) (k:Blk),L'[i]?=some k->i<L'.length:=λi k hk=>(ajr.1 hk).1
 refine⟨h.mem,λi k hk=>?_,λi hi=>?_,λi k c hk hl hc=>?_,λi j k k' c c' hi li hj lj hci hcj he=>?_,λi hi=>?_,λi n sz t d hi ht hd=>?_,λi n sz t d j k' c' hi ht hd hj hl hc'=>?_,λi n sz t d i' n' sz' t' d' hi ht hd hi' ht' hd' e=>?_,h.frame,h.size,h.os,h.tape,h.output,h.glob,h.gsz⟩;rcases hl:k.live with _|_;cases k<;>simp only[Blk.live,akx]at hl;simp[bS];exact bS.still (i:=g i) rfl (Env.res_tok (lt i _ hk)) (λ_ _ _ _ _ _ _=>rfl) (h.blk (g i) _ (hs i _ _ hk))
 grind
 simp only[Env.res]
 grind
 rw[Env.res_loc (lt i k hk)]at hc;obtain⟨k0,h1,h2,_⟩:=hb i k hk hl;exact h.own (g i) k0 c h1 h2 hc;rw[Env.res_loc (lt i k hi)]at hci;rw[Env.res_loc (lt j k' hj)]at hcj;obtain⟨k0,h1,h2,_⟩:=hb i k hi li;obtain⟨k1,h3,h4,_⟩:=hb j k' hj lj;exact hinj i j (lt i k hi) (lt j k' hj) (h.inj _ _ _ _ _ _ h1 h2 h3 h4 hci hcj he);simp only[Env.res]
 grind
 rw[Env.res_tok (lt i _ hi)]at ht;exact h.tkown (g i) n sz t d (hs _ _ _ hi) ht hd;rw[Env.res_tok (lt i _ hi)]at ht;rw[Env.res_loc (lt j k' hj)]at hc';obtain⟨k0,h1,h2,_⟩:=hb j k' hj hl;exact h.tkloc (g i) n sz t d (g j) k0 c' (hs _ _ _ hi) ht hd h1 h2 hc';rw[Env.res_tok (lt i _ hi)]at ht;rw[Env.res_tok (lt i' _ hi')]at ht';exact hinj i i' (lt i _ hi) (lt i' _ hi') (h.tkinj (g i) n sz t d (g i') n' sz' t' d' (hs _ _ _ hi) ht hd (hs _ _ _ hi') ht' hd' e)
def Blk.refs(p:Nat->Bool):Blk->Bool
 |.cells l=>AV.refsL p l
 |.map es _=>es.all λe=>e.1.refs p&&e.2.1.refs p
 |.miter (some j) _ _ _=>p j
 |.bytes l=>AV.refsL p l
 |.lrec T _ _ _ _ _ _=>T.all λe=>((ay T e.1).map (AV.refs p)).getD true
 |_=>true
theorem aE.cut{E E':Env}{p:Nat->Bool}(hm:∀b o v,E.mem b o=some v->E'.mem b o=some v)(hl:∀i c,p i=true->E.loc i=some c->E'.loc i=some c)(ht:∀i t,p i=true->E.tok i=some t->E'.tok i=some t):
  ∀{l:List (AV×AV×Nat)}{es:List MapEntry},(l.all λe=>e.1.refs p&&e.2.1.refs p)=true->aE E l es->aE E' l es
 |[],_,_,r=>by simpa[aE]using r
 |(k,x,b)::l,es,q,r=>by simp only[akL,ajv,aE]at q r⊢;obtain⟨e,t,h1,h2,h3,h4,h5⟩:=r;exact⟨e,t,h1,VR.cut hm hl ht _ _ q.1.1 h2,VR.cut hm hl ht _ _ q.1.2 h3,h4,aE.cut hm hl ht q.2 h5⟩
theorem bS.cut{p:Nat->Bool}(hm:∀b o v,E.mem b o=some v->E'.mem b o=some v)(hl:∀i c,p i=true->E.loc i=some c->E'.loc i=some c)(ht:∀i t,p i=true->E.tok i=some t->E'.tok i=some t)(hi:∀c,E.loc i=some c->E'.loc i=some c):∀{k:Blk},k.live=true->k.refs p=true->bS E w i k->bS E' w i k
 |.dead,q,_,_=>by simp[Blk.live]at q
 |.spare _ _,q,_,_=>by simp[Blk.live]at q
 |.cells l,_,q,r=>by simp only[bS,Blk.refs]at q r⊢;obtain⟨c,cs,ty,fr,h1,h2,h3,h4,h5,h6⟩:=r;exact⟨c,cs,ty,fr,hi _ h1,h2,h3,h4,λj a ha=>let ⟨v,x,y⟩:=h5 j a ha;⟨v,x,VR.cut hm hl ht _ _ (AV.refsL_iff.1 q a (akg ha)) y⟩,h6⟩
 |.map es ck,_,q,r=>by simp only[bS,Blk.refs]at q r⊢;obtain⟨c,rs,h1,h2,h3⟩:=r;exact⟨c,rs,hi _ h1,h2,aE.cut hm hl ht q h3⟩
 | .miter m since seen last,_,q,r=>by
   simp only[bS]at r⊢;obtain⟨c,s,h1,h2,h3,h4⟩:=r;refine⟨c,s,hi _ h1,h2,h3,?_⟩;cases m with
   |none=>exact h4
   |some j=>obtain⟨d,g1,g2⟩:=h4;exact⟨d,hl j d q g1,g2⟩
 |.lrec T n fn ps ca cb busy,_,q,r=>by simp only[bS,Blk.refs,ajE]at q r⊢;obtain⟨c,D,tm,h1,h2,h3,h4,h5⟩:=r;exact⟨c,D,tm,hi _ h1,h2,h3,h4,λt v hv=>VR.cut hm hl ht _ _ (by simpa[hv]using q (t,v) (QY hv)) (h5 t v hv)⟩
 | .siter s pos,_,_,r=>by
   simp only[bS]at r⊢
   grind
 |.bytes l,_,q,r=>by simp only[bS,Blk.refs]at q r⊢;obtain⟨c,cs,ty,fr,h1,h2,h3,h4,h5,h6⟩:=r;exact⟨c,cs,ty,fr,hi _ h1,h2,h3,h4,λj a ha=>let ⟨v,x,y⟩:=h5 j a ha;⟨v,x,VR.cut hm hl ht _ _ (AV.refsL_iff.1 q a (akg ha)) y⟩,h6⟩
theorem Rel.cut(h:Rel w0 S0 E (L++L') w)(hr:∀k∈L,k.refs (λi=>decide (i<L.length))=true):
  Rel w0 S0 (E.res L.length id) L w:=by
 have up:∀(i:Nat) (k:Blk),L[i]?=some k->(L++L')[i]?=some k:=λi k hk=>by grind
 refine h.renum (L':=L) id (λ_ _ _ _ e=>e) (λi n sz hi=>up i _ hi) λi k hk hl=>?_
 have hlt:i<L.length:=(ajr.1 hk).1;refine⟨k,up i k hk,hl,?_⟩;refine bS.cut (E:=E) (E':=E.res L.length id) (p:=λi=>decide (i<L.length)) (λ_ _ _ x=>x) (λj c hj hc=>?_) (λj t hj ht=>?_) (λc hc=>?_) hl (hr k (akg hk)) (h.blk i k (up i k hk));rw[Env.res_loc (by simpa using hj)];exact hc;rw[Env.res_tok (by simpa using hj)];exact ht;rw[Env.res_loc hlt];exact hc
theorem Rel.imm'(h:Rel w0 S0 E L w)(cs:List Value)(ty:TypeId)(l:List AV)(hl:VRL E l cs)(extra:List Value)(fr:Nat×Nat):
  ∃E',E.le E'/\Rel w0 S0 E' L {w with heap:=w.heap.push (.cells ⟨cs++extra⟩ ty fr)}/\VRC E' l w.heap.size 0/\E'.loc=E.loc/\E'.tok=E.tok/\∀o,cs.length<=o->E'.mem w.heap.size o=none:=by
 have hle:E.le {E with mem:=λb o=>if b=w.heap.size then cs[o]? else E.mem b o}:=by refine⟨λb o v hv=>?_,λ_ _ x=>x,λ_ t h=>⟨t,h,.inl rfl⟩⟩;show(if b=w.heap.size then cs[o]? else E.mem b o)=some v;rw[if_neg (by have:=h.mem_lt hv;omega)];exact hv
 refine⟨{E with mem:=λb o=>if b=w.heap.size then cs[o]? else E.mem b o},hle,?_,?_,rfl,rfl,λo ho=>?_⟩;refine⟨λb o v hv=>?_,λj k hk=>?_,h.fresh,λj k d hk hl hd=>?_,h.inj,h.tkfresh,λj n sz t d hj ht hd=>⟨λo ho=>?_,(h.tkown j n sz t d hj ht hd).2⟩,h.tkloc,h.tkinj,λk hk hs=>?_,?_,h.os,h.tape,h.output,h.glob.mono hle.mem,h.gsz.push _⟩;replace hv:(if b=w.heap.size then cs[o]? else E.mem b o)=some v:=hv;by_cases e:b=w.heap.size;rw[if_pos e]at hv;subst e;have hlt:o<cs.length:=(ajr.1 hv).1;simp[World.cell?,akT,hlt];simpa[ajF hlt]using hv;rw[if_neg e]at hv;exact Oq (h.mem b o v hv);rcases hl:k.live with _|_;exact bS.still (E:=E) hl rfl (λt d n sz e ht hd=>akU (h.tok_lt (e▸hk) ht hd) |>.trans (akq _).symm) (h.blk j k hk);refine bS.worldL hl (λd hd=>?_) (bS.mono hle hl (h.blk j k hk));exact akU (h.loc_lt hk hl hd) |>.trans (akq _).symm;have hd:E.loc j=some d:=hd;refine⟨λo=>?_,(h.own j k d hk hl hd).2⟩;show(if d.blk=w.heap.size then cs[o]? else E.mem d.blk o)=none;rw[if_neg (by have:=h.loc_lt hk hl hd;omega)];exact(h.own j k d hk hl hd).1 o;show(if d.blk=w.heap.size then cs[o]? else E.mem d.blk o)=none;rw[if_neg (by have:=h.tok_lt hj ht hd;omega)];exact(h.tkown j n sz t d hj ht hd).1 o ho;rw[<- h.frame k hk hs];exact akU (akK hk h.size) |>.trans (akq _).symm;simp;have:=h.size;omega;refine VRC.of_get λj a ha=>?_
 obtain⟨v,h1,h2⟩:=hl.get ha;refine⟨v,?_,VR.mono hle _ _ h2⟩;show(if w.heap.size=w.heap.size then cs[0+j]? else E.mem w.heap.size (0+j))=some v;simpa using h1;show(if w.heap.size=w.heap.size then cs[o]? else E.mem w.heap.size o)=none;rw[if_pos rfl];simpa using ho
def acV(w0:World)(S0:SB)(E:Env)(L:List Blk)(w:World)(i n sz:Nat)(lc:Option Loc):Prop:=∀k,lc=some k ->
 (∃cs ty fr,w.heap[k.blk]?=some (.cells cs ty fr)/\cs.size=k.size/\(∀o,n*sz<=o->o<k.size->¬(fr.1<=o/\o<fr.2)))/\(∀o,n*sz<=o->E.mem k.blk o=none)/\(S0 k.blk\/w0.heap.size<=k.blk) /\
 (∀j k' c,L[j]?=some k'->k'.live=true->E.loc j=some c->c.blk≠k.blk)/\(∀j n' sz' t' k',j≠i->L[j]?=some (.spare n' sz')->E.tok j=some t'->t'.loc=some k'->k'.blk≠k.blk)
theorem R4      :acV w0 S0 E L w i n sz none:=λ_ h=>by cases h
theorem Rel.settok(h:Rel w0 S0 E L w){lc:Option Loc}(hi:∃m s,L[i]?=some (.spare m s))(hpos:∀t,E.tok i=some t->t.pos<n)(hr:acV w0 S0 E L w i n sz lc):
  E.le {E with tok:=λj=>if j=i then some ⟨n,sz,lc⟩else E.tok j}/\Rel w0 S0 {E with tok:=λj=>if j=i then some ⟨n,sz,lc⟩else E.tok j} (L.set i (.spare n sz)) w:=by
 obtain⟨m0,s0,hi⟩:=hi;have hlt:i<L.length:=(ajr.1 hi).1;have fix:∀(j:Nat) (k:Blk),(L.set i (.spare n sz))[j]?=some k->k.live=true->j≠i/\L[j]?=some k:=λj k hk hl=>by
  rw[aj1]at hk;by_cases e:i=j;subst e;rw[if_pos rfl,if_pos hlt]at hk;cases hk;simp[Blk.live]at hl
  grind
 have fixs:∀(j n' s':Nat) (t:Tok),(L.set i (.spare n sz))[j]?=some (.spare n' s')->(if j=i then some (⟨n,sz,lc⟩:Tok)else E.tok j)=some t->(j=i/\n'=n/\s'=sz/\t=⟨n,sz,lc⟩)\/(j≠i/\L[j]?=some (.spare n' s')/\E.tok j=some t):=λj n' s' t hk ht=>by grind
 have hle:E.le {E with tok:=λj=>if j=i then some ⟨n,sz,lc⟩else E.tok j}:=⟨λ_ _ _ x=>x,λ_ _ x=>x,λj t ht=>by show ∃t',(if j=i then some (⟨n,sz,lc⟩:Tok)else E.tok j)=some t'/\_;by_cases e:j=i;subst e;exact⟨_,if_pos rfl,.inr (hpos t ht)⟩;exact⟨t,by rw[if_neg e];exact ht,.inl rfl⟩⟩
 refine⟨hle,h.mem,λj k hk=>?_,λj hj=>h.fresh j (by simpa using hj),λj k c hk hl hc=>h.own j k c (fix j k hk hl).2 hl hc,λj j' k k' c c' hk hl hk' hl'=>h.inj j j' k k' c c' (fix j k hk hl).2 hl (fix j' k' hk' hl').2 hl',
  λj hj=>?_,λj n' s' t d hj ht hd=>?_,λj n' s' t d j' k' c' hj ht hd hj' hl' hc'=>?_,λj n' s' t d j' n2 s2 t' d' hj ht hd hj' ht' hd' e=>?_,h.frame,h.size,h.os,h.tape,h.output,h.glob,h.gsz⟩
 rcases hl:k.live with _|_;rw[aj1]at hk;by_cases e:i=j;subst e;rw[if_pos rfl,if_pos hlt]at hk;cases hk;refine⟨⟨n,sz,lc⟩,amN,rfl,rfl,λk hk=>(hr k hk).1⟩;rw[if_neg e]at hk;refine bS.still (E:=E) (i:=j) hl ?_ (λ_ _ _ _ _ _ _=>rfl) (h.blk j k hk)
 grind
 exact bS.mono hle hl (h.blk j k (fix j k hk hl).2);show(if j=i then some _ else E.tok j)=none
 rw [if_neg (by have : L.length <= j := by simpa using hj
                omega)]
 exact h.tkfresh j (by simpa using hj);rcases fixs j n' s' t hj ht with⟨rfl,rfl,rfl,rfl⟩|⟨_,h1,h2⟩;exact⟨(hr d hd).2.1,(hr d hd).2.2.1⟩;exact h.tkown j n' s' t d h1 h2 hd;obtain⟨_,h3⟩:=fix j' k' hj' hl';rcases fixs j n' s' t hj ht with⟨rfl,rfl,rfl,rfl⟩|⟨_,h1,h2⟩;exact(hr d hd).2.2.2.1 j' k' c' h3 hl' hc';exact h.tkloc j n' s' t d j' k' c' h1 h2 hd h3 hl' hc';rcases fixs j n' s' t hj ht with⟨rfl,rfl,rfl,rfl⟩|⟨n1,h1,h2⟩<;>rcases fixs j' n2 s2 t' hj' ht' with⟨rfl,rfl,rfl,rfl⟩|⟨n3,h3,h4⟩;rfl;exact absurd e.symm ((hr d hd).2.2.2.2 j' n2 s2 t' d' n3 h3 h4 hd');exact absurd e ((hr d' hd').2.2.2.2 j n' s' t d n1 h1 h2 hd);exact h.tkinj j n' s' t d j' n2 s2 t' d' h1 h2 hd h3 h4 hd' e
theorem Rel.addtok(h:Rel w0 S0 E L w){lc:Option Loc}(hr:acV w0 S0 E L w L.length n sz lc):
  E.le {E with tok:=λj=>if j=L.length then some ⟨n,sz,lc⟩else E.tok j}/\Rel w0 S0 {E with tok:=λj=>if j=L.length then some ⟨n,sz,lc⟩else E.tok j} (L++[.spare n sz]) w:=by
 have hn:E.tok L.length=none:=h.tkfresh _ (ajs _);have hle:E.le {E with tok:=λj=>if j=L.length then some ⟨n,sz,lc⟩else E.tok j}:=⟨λ_ _ _ x=>x,λ_ _ x=>x,λj t ht=>by show ∃t',(if j=L.length then some (⟨n,sz,lc⟩:Tok)else E.tok j)=some t'/\_;rw[if_neg (λe=>by rw[e,hn]at ht;cases ht)];exact⟨t,ht,.inl rfl⟩⟩
 have lt:∀(i:Nat) (k:Blk),L[i]?=some k->i<L.length:=λi k hk=>(ajr.1 hk).1
 have fix:∀(j:Nat) (k:Blk),(L++[.spare n sz])[j]?=some k->(j=L.length/\k=.spare n sz)\/(j<L.length/\L[j]?=some k):=λj k hk=>by grind
 have fixl:∀(j:Nat) (k:Blk),(L++[.spare n sz])[j]?=some k->k.live=true->L[j]?=some k:=λj k hk hl=>by rcases fix j k hk with⟨_,e⟩|⟨_,e⟩;subst e;simp[Blk.live]at hl;omega
 have fixs:∀(j n' s':Nat) (t:Tok),(L++[.spare n sz])[j]?=some (.spare n' s')->(if j=L.length then some (⟨n,sz,lc⟩:Tok)else E.tok j)=some t->(j=L.length/\n'=n/\s'=sz/\t=⟨n,sz,lc⟩)\/(j≠L.length/\L[j]?=some (.spare n' s')/\E.tok j=some t):=λj n' s' t hk ht=>by grind
 refine⟨hle,h.mem,λj k hk=>?_,λj hj=>h.fresh j (by simp at hj;omega),λj k c hk hl hc=>h.own j k c (fixl j k hk hl) hl hc,λj j' k k' c c' hk hl hk' hl'=>h.inj j j' k k' c c' (fixl j k hk hl) hl (fixl j' k' hk' hl') hl',
  λj hj=>?_,λj n' s' t d hj ht hd=>?_,λj n' s' t d j' k' c' hj ht hd hj' hl' hc'=>?_,λj n' s' t d j' n2 s2 t' d' hj ht hd hj' ht' hd' e=>?_,h.frame,h.size,h.os,h.tape,h.output,h.glob,h.gsz⟩
 rcases fix j k hk with⟨e,e2⟩|⟨e,e2⟩;subst e;subst e2;exact⟨⟨n,sz,lc⟩,amN,rfl,rfl,λk hk=>(hr k hk).1⟩;rcases hl:k.live with _|_;refine bS.still (E:=E) (i:=j) hl ?_ (λ_ _ _ _ _ _ _=>rfl) (h.blk j k e2)
 grind
 exact bS.mono hle hl (h.blk j k e2);simp at hj;show(if j=L.length then some _ else E.tok j)=none;rw[if_neg amM];exact h.tkfresh j amM;rcases fixs j n' s' t hj ht with⟨rfl,rfl,rfl,rfl⟩|⟨_,h1,h2⟩;exact⟨(hr d hd).2.1,(hr d hd).2.2.1⟩;exact h.tkown j n' s' t d h1 h2 hd;have h3:=fixl j' k' hj' hl';rcases fixs j n' s' t hj ht with⟨rfl,rfl,rfl,rfl⟩|⟨_,h1,h2⟩;exact(hr d hd).2.2.2.1 j' k' c' h3 hl' hc';exact h.tkloc j n' s' t d j' k' c' h1 h2 hd h3 hl' hc';rcases fixs j n' s' t hj ht with⟨rfl,rfl,rfl,rfl⟩|⟨n1,h1,h2⟩<;>rcases fixs j' n2 s2 t' hj' ht' with⟨rfl,rfl,rfl,rfl⟩|⟨n3,h3,h4⟩;rfl;exact absurd e.symm ((hr d hd).2.2.2.2 j' n2 s2 t' d' n3 h3 h4 hd');exact absurd e ((hr d' hd').2.2.2.2 j n' s' t d n1 h1 h2 hd);exact h.tkinj j n' s' t d j' n2 s2 t' d' h1 h2 hd h3 h4 hd' e
theorem Rel.tokwrite(h:Rel w0 S0 E L w){m:Nat}{t:Tok}{k:Loc}(hi:L[i]?=some (.spare m sz))(ht:E.tok i=some t)(hk:t.loc=some k)(hmn:m<n){cs cs':Array Value}{ty:TypeId}{fr:Nat×Nat}(hc:w.heap[k.blk]?=some (.cells cs ty fr))(hs:w'.heap.size=w.heap.size)(ho:∀b,b≠k.blk->w'.heap[b]?=w.heap[b]?)(e1:w'.os=w.os)(e2:w'.tape=w.tape)(e3:w'.output=w.output)(hc':w'.heap[k.blk]?=some (.cells cs' ty fr))(hcs:cs'.size=cs.size)(hold:∀o,o<m*sz\/n*sz<=o->cs'[o]?=cs[o]?):
  ∃E',E.le E'/\Rel w0 S0 E' (L.set i (.spare n sz)) w'/\E'.tok i=some ⟨n,sz,some k⟩/\(∀o,m*sz<=o->o<n*sz->E'.mem k.blk o=cs'[o]?):=by
 have hmul:m*sz<=n*sz:=akC _ amM;have hlt:i<L.length:=(ajr.1 hi).1;obtain⟨t',q1,q2,q3,q4⟩:=h.blk i _ hi;rw[ht]at q1;cases q1;obtain⟨cs0,ty0,fr0,q5,q6,q7⟩:=q4 k hk;rw[hc]at q5;cases q5;have hown:=h.tkown i m sz t k hi ht hk;have hR1:Rel w0 S0 E L w':=by
  refine⟨λb o v hv=>?_,λj k2 hj=>?_,h.fresh,h.own,h.inj,h.tkfresh,h.tkown,h.tkloc,h.tkinj,λb hb hs'=>?_,by rw[hs];exact h.size,e1.trans h.os,e2.trans h.tape,e3.trans h.output,h.glob,h.gsz.mod (λb cs1 ty1 fr1 hb=>by by_cases e:b=k.blk;subst e;rw[hc]at hb;cases hb;exact⟨cs',ty,fr,hc',hcs⟩;exact⟨cs1,ty1,fr1,by rw[ho b e];exact hb,rfl⟩)⟩
  have:=h.mem b o v hv;by_cases e:b=k.blk;subst e;have hlo:o<m*sz:=by grind
  simp only[World.cell?,hc,hc']at this⊢;simp_all;simp only[World.cell?]at this⊢;simp_all;rcases hl:k2.live with _|_;by_cases e:j=i;subst e;rw[hi]at hj;cases hj;exact⟨t,ht,q2,q3,λk' hk'=>by rw[hk]at hk';cases hk';exact⟨cs',ty,fr,hc',by rw[hcs];exact q6,q7⟩⟩;exact bS.still (E:=E) hl rfl (λt2 d n2 sz2 e2 ht2 hd=>ho d.blk λe'=>e (h.tkinj j n2 sz2 t2 d i m sz t k (e2▸hj) ht2 hd hi ht hk e')) (h.blk j k2 hj);exact bS.worldL hl (λd hd=>ho d.blk (h.tkloc i m sz t k j k2 d hi ht hk hj hl hd)) (h.blk j k2 hj);rw[ho b];exact h.frame b hb hs';intro e;subst e;rcases hown.2 with h1|h1;exact hs' h1;omega
 have hle1:E.le {E with mem:=λb o=>if b=k.blk/\m*sz<=o/\o<n*sz then w'.cell? ⟨b,o,none⟩else E.mem b o}:=by refine⟨λb o v hv=>?_,λ_ _ x=>x,λ_ t h=>⟨t,h,.inl rfl⟩⟩;show(if b=k.blk/\m*sz<=o/\o<n*sz then w'.cell? ⟨b,o,none⟩else E.mem b o)=some v;split;exact hR1.mem b o v hv;exact hv
 have hroom:acV w0 S0 E L w' i n sz (some k):=λk' hk'=>by cases hk';refine⟨⟨cs',ty,fr,hc',by rw[hcs];exact q6,λo h1 h2=>q7 o amM h2⟩,λo h1=>hown.1 o amM,hown.2,λj k2 c hj hl hcj=>h.tkloc i m sz t k j k2 c hi ht hk hj hl hcj,λj n2 sz2 t2 k2 hne hj ht2 hk2 e=>hne (h.tkinj j n2 sz2 t2 k2 i m sz t k hj ht2 hk2 hi ht hk e)⟩
 obtain⟨hle2,hR2⟩:=hR1.settok ⟨m,sz,hi⟩ (λt2 ht2=>by rw[ht]at ht2;cases ht2;omega) hroom;have hle3:({E with tok:=λj=>if j=i then some ⟨n,sz,some k⟩else E.tok j}:Env).le {mem:=λb o=>if b=k.blk/\m*sz<=o/\o<n*sz then w'.cell? ⟨b,o,none⟩else E.mem b o,loc:=E.loc,tok:=λj=>if j=i then some ⟨n,sz,some k⟩else E.tok j}:=
  ⟨hle1.mem,λ_ _ x=>x,λ_ t h=>⟨t,h,.inl rfl⟩⟩
 have fixs:∀(j n' s':Nat) (t:Tok),(L.set i (.spare n sz))[j]?=some (.spare n' s')->(if j=i then some (⟨n,sz,some k⟩:Tok)else E.tok j)=some t->(j=i/\n'=n/\s'=sz/\t=⟨n,sz,some k⟩)\/(j≠i/\L[j]?=some (.spare n' s')/\E.tok j=some t):=λj n' s' t hk ht=>by rw[aj1]at hk;by_cases e:j=i;subst e;rw[if_pos rfl]at hk ht;rw[if_pos hlt]at hk;cases hk;cases ht;exact .inl ⟨rfl,rfl,rfl,rfl⟩;rw[if_neg (Ne.symm e)]at hk;rw[if_neg e]at ht;exact .inr ⟨e,hk,ht⟩
 refine⟨{mem:=λb o=>if b=k.blk/\m*sz<=o/\o<n*sz then w'.cell? ⟨b,o,none⟩else E.mem b o,loc:=E.loc,tok:=λj=>if j=i then some ⟨n,sz,some k⟩else E.tok j},hle2.trans hle3,?_,amN,λo h1 h2=>?_⟩;refine⟨λb o v hv=>?_,λj k2 hj=>?_,hR2.fresh,λj k2 c hj hl hcj=>⟨λo=>?_,(hR2.own j k2 c hj hl hcj).2⟩,hR2.inj,hR2.tkfresh,λj n2 s2 t2 d hj ht2 hd=>⟨λo hoo=>?_,(hR2.tkown j n2 s2 t2 d hj ht2 hd).2⟩,hR2.tkloc,hR2.tkinj,hR2.frame,hR2.size,hR2.os,hR2.tape,hR2.output,hR2.glob.mono hle3.mem,hR2.gsz⟩;have hv:(if b=k.blk/\m*sz<=o/\o<n*sz then w'.cell? ⟨b,o,none⟩else E.mem b o)=some v:=hv;split at hv;exact hv;exact hR1.mem b o v hv;rcases hl:k2.live with _|_;exact bS.still (E:={E with tok:=λj=>if j=i then some ⟨n,sz,some k⟩else E.tok j}) (i:=j) hl rfl (λ_ _ _ _ _ _ _=>rfl) (hR2.blk j k2 hj);exact bS.mono hle3 hl (hR2.blk j k2 hj);have hne:=hR2.tkloc i n sz ⟨n,sz,some k⟩ k j k2 c (by simp[hlt]) amN rfl hj hl hcj;show(if c.blk=k.blk/\m*sz<=o/\o<n*sz then w'.cell? ⟨c.blk,o,none⟩else E.mem c.blk o)=none;rw[if_neg λe=>hne e.1];exact(hR2.own j k2 c hj hl hcj).1 o;show(if d.blk=k.blk/\m*sz<=o/\o<n*sz then w'.cell? ⟨d.blk,o,none⟩else E.mem d.blk o)=none;rcases fixs j n2 s2 t2 hj ht2 with⟨rfl,rfl,rfl,rfl⟩|⟨n1,h1,h2⟩;rw[if_neg amM];exact(hR2.tkown _ _ _ _ d hj ht2 hd).1 o hoo;rw[if_neg λe=>n1 (h.tkinj j n2 s2 t2 d i m sz t k h1 h2 hd hi ht hk e.1)];exact(hR2.tkown _ _ _ _ d hj ht2 hd).1 o hoo;show(if k.blk=k.blk/\m*sz<=o/\o<n*sz then w'.cell? ⟨k.blk,o,none⟩else E.mem k.blk o)=cs'[o]?;rw[if_pos ⟨rfl,h1,h2⟩];simp[World.cell?,hc']
mutual
def AV.frz:AV->AV
 |.nilsl=>.sl [] 0 none
 |.sl l n _=>.sl (AV.frzL l) n none
 |.gsl l n _ _=>.sl (AV.frzL l) n none
 |.agg l=>.agg (AV.frzL l)
 |.tup l=>.tup (AV.frzL l)
 |.iface t a=>.iface t (AV.frz a)
 |a=>a
def AV.frzL:List AV->List AV
 |[]=>[]
 |a::l=>AV.frz a::AV.frzL l
end
theorem AV.frzL_eq:∀(l:List AV),AV.frzL l=l.map AV.frz
 |[]=>rfl
 |a::l=>by simp[AV.frzL,AV.frzL_eq l]
theorem AV.frzL_length(l:List AV):(AV.frzL l).length=l.length:=by simp[AV.frzL_eq]
mutual
theorem VR.frz{E:Env}:∀(a:AV) (v:Value),VR E a v->VR E a.frz v
 |.undef,_,_=>by simp[VR,AV.frz]
 |.bool _,_,r=>by simpa[VR,AV.frz]using r
 |.anyb,_,r=>by simpa[VR,AV.frz]using r
 |.int _ _,_,r=>by simpa[VR,AV.frz]using r
 |.str _,_,r=>by simpa[VR,AV.frz]using r
 |.nilptr,_,r=>by simpa[VR,AV.frz]using r
 |.gptr _ _,_,r=>by simpa[VR,AV.frz]using r
 |.ptr _ _,_,r=>by simpa[VR,AV.frz]using r
 |.iptr _ _,_,r=>by simpa[VR,AV.frz]using r
 |.nilsl,v,r=>by simp only[VR,AV.frz]at r⊢;subst r;exact⟨none,0,amN⟩
 |.sl l n cap,v,r=>by simp only[VR,AV.frz]at r⊢;obtain⟨p,c,h1,h2,h3,h4⟩:=r;exact⟨p,c,h1,h2,amN,h4.imp (λ⟨a1,a2,a3⟩=>⟨a1,a2,by subst a3;rfl⟩) λ⟨b,o,h5,h6⟩=>⟨b,o,h5,VRC.frz l b o h6⟩⟩
 |.lsl _ _ _ _ _,_,r=>by simpa[VR,AV.frz]using r
 |.gsl l n i sz,v,r=>by simp only[VR,AV.frz]at r⊢;obtain⟨p,c,h1,h2,h3,h4,_⟩:=r;exact⟨p,c,h1,h2,amN,h4.imp (λ⟨a1,a2,a3⟩=>⟨a1,a2,by subst a3;rfl⟩) λ⟨b,o,h5,h6⟩=>⟨b,o,h5,VRC.frz l b o h6⟩⟩
 |.nilmap,_,r=>by simpa[VR,AV.frz]using r
 |.lmap _,_,r=>by simpa[VR,AV.frz]using r
 |.yld _,_,r=>by simpa[VR,AV.frz]using r
 |.func _ _,_,r=>by simpa[VR,AV.frz]using r
 |.nilfunc,_,r=>by simpa[VR,AV.frz]using r
 |.nilif,_,r=>by simpa[VR,AV.frz]using r
 |.iface t a,v,r=>by simp only[VR,AV.frz]at r⊢;obtain⟨x,h1,h2⟩:=r;exact⟨x,h1,VR.frz a x h2⟩
 |.agg l,v,r=>by simp only[VR,AV.frz]at r⊢;obtain⟨vs,h1,h2⟩:=r;exact⟨vs,h1,VRL.frz l vs h2⟩
 |.tup l,v,r=>by simp only[VR,AV.frz]at r⊢;obtain⟨vs,h1,h2⟩:=r;exact⟨vs,h1,VRL.frz l vs h2⟩
theorem VRL.frz{E:Env}:∀(l:List AV) (vs:List Value),VRL E l vs->VRL E (AV.frzL l) vs
 |[],_,r=>by simpa[VRL,AV.frzL]using r
 |a::l,vs,r=>by simp only[VRL,AV.frzL]at r⊢;obtain⟨x,xs,h1,h2,h3⟩:=r;exact⟨x,xs,h1,VR.frz a x h2,VRL.frz l xs h3⟩
theorem VRC.frz{E:Env}:∀(l:List AV) (b o:Nat),VRC E l b o->VRC E (AV.frzL l) b o
 |[],_,_,_=>by simp[VRC,AV.frzL]
 |a::l,b,o,r=>by simp only[VRC,AV.frzL]at r⊢;obtain⟨⟨x,h1,h2⟩,h3⟩:=r;exact⟨⟨x,h1,VR.frz a x h2⟩,VRC.frz l b (o+1) h3⟩
end
inductive Opd where
 |tmp (t:Nat)
 |av (a:AV)
 deriving Inhabited
def WP:Value->Option AV
 |.bool b=>some (.bool b)
 |.int k n=>some (.int k n)
 |.string s=>some (.str s.data.toList)
 |.pointer none=>some .nilptr
 |.slice none 0 0=>some (.sl [] 0 (some 0))
 |.map none=>some .nilmap
 |.nilFunc=>some .nilfunc
 |.nilIface=>some .nilif
 |.func (.func f) ⟨[]⟩ ⟨[]⟩=>some (.func f [])
 |_=>none
def WO:List Value->Option (List AV)
 |[]=>some []
 | v::vs=>match WP v,WO vs with
   |some a,some l=>some (a::l)
   |_,_=>none
def agh:Value->Option AV
 |.agg ⟨vs⟩=>(WO vs).map .agg
 |.tuple ⟨[]⟩=>some (.tup [])
 |v=>WP v
def ahE:Value->Option (List AV)
 |.agg ⟨vs⟩=>WO vs
 |v=>(WP v).map ([·])
theorem sZ{a:AV}(h:WP v=some a):VR E a v/\a.one=true:=by
 unfold WP at h;split at h<;>simp at h<;>subst h<;>simp[VR,VRL,AV.one]
 grind
theorem Jn{E:Env}:∀{vs:List Value}{l:List AV},WO vs=some l->VRL E l vs/\∀a∈l,AV.one a=true
 |[],l,h=>by simp[WO]at h;subst h;simp[VRL]
 |v::vs,l,h=>by simp only[WO]at h;split at h<;>simp at h;rename_i a m h1 h2;subst h;have:=Jn (E:=E) h2;exact⟨⟨v,vs,rfl,(sZ h1).1,this.1⟩,by simpa using⟨(sZ (E:=E) h1).2,this.2⟩⟩
theorem UU{a:AV}(h:agh v=some a):VR E a v:=by unfold agh at h;split at h;simp only[ajW]at h;obtain⟨l,h1,rfl⟩:=h;exact⟨_,rfl,(Jn h1).1⟩;simp at h;subst h;simp[VR,VRL];exact(sZ h).1
theorem Z8(h:ahE v=some l):VRL E l v.cells.toList/\∀a∈l,AV.one a=true:=by
 unfold ahE at h;split at h;exact Jn h;simp only[ajW]at h;obtain⟨a,h1,rfl⟩:=h;have:=sZ (E:=E) h1;have hv:v.cells=#[v]:=by cases v<;>first|rfl|simp[WP]at h1
 rw[hv];exact⟨⟨v,[],rfl,this.1,rfl⟩,by simpa using this.2⟩
def bJ:Operand->Option Opd
 |.tmp t=>some (.tmp t)
 |.const v=>(agh v).map .av
 |.func f=>some (.av (.func f []))
 |.global g=>some (.av (.gptr g 0))
def evX(T:Tm):Opd->Option AV
 |.tmp t=>ay T t
 |.av a=>some a
theorem ao{x:Operand}{y:Opd}{v:AV}(h:bJ x=some y)(hv:evX T y=some v)(hT:TR E T a):VR E v (a.eval x):=by unfold bJ at h;split at h<;>simp at h;subst h;exact hT _ _ hv;obtain⟨u,h1,rfl⟩:=h;simp[evX]at hv;subst hv;exact UU h1;subst h;simp[evX]at hv;subst hv;simp[VR,VRL,Act.eval];subst h;simp[evX]at hv;subst hv;rfl
def AV.cells?:AV->Option (List AV)
 |.agg l=>some l
 |.undef|.tup _=>none
 |a=>some [a]
theorem oL{a:AV}(h:a.cells?=some l)(hv:VR E a v):VRL E l v.cells.toList:=by
 rcases ho:a.one with _|_;cases a<;>simp[AV.one]at ho<;>simp[AV.cells?]at h;subst h;obtain⟨vs,rfl,h2⟩:=hv;exact h2;have hl:l=[a]:=by cases a<;>simp[AV.one]at ho<;>simp[AV.cells?]at h<;>exact h.symm
 subst hl;have hone:=hv.one ho;have:v.cells=#[v]:=by cases v<;>first|rfl|simp[Value.one]at hone
 rw[this];exact⟨v,[],rfl,hv,rfl⟩
def dw(l:List AV)(off:Nat)(vals:List AV):List AV:=l.take off++vals++l.drop (off+vals.length)
def deg:AV->AV
 | .gptr g off=>match kj g with
   |some l=>.iptr l off
   |none=>.gptr g off
 |a=>a
theorem acI(h:Rel w0 S0 E L w){a:AV}(hv:VR E a v):VR E (deg a) v:=by
 cases a
 case gptr g off =>
  simp only[deg];split
  .rename_i l hl;subst hv;exact⟨g,0,amN,h.glob.env (aay hl)⟩
  omega
 all_goals exact hv
def evD(T:Tm)(x:Opd):Option AV:=(evX T x).map deg
theorem iJ(h:Rel w0 S0 E L w){x:Operand}{y:Opd}{v:AV}(hl:bJ x=some y)(hv:evD T y=some v)(hT:TR E T a):VR E v (a.eval x):=by simp only[evD,ajW]at hv;obtain⟨u,h1,rfl⟩:=hv;exact acI h (ao hl h1 hT)
def row(L:List Blk):AV->Option (List AV×Nat)
 | .ptr i off=>match L[i]? with
   |some (.cells l)=>some (l,off)
   |some (.bytes l)=>some (l,off)
   |_=>none
 |.iptr l off=>some (l,off)
 |_=>none
theorem Rv(h:Rel w0 S0 E L w){p:AV}(hr:row L p=some (l,off))(hv:VR E p v):
  ∃b o,v=.pointer (some ⟨b,o+off,none⟩)/\∀(j:Nat) (a:AV),l[j]?=some a->∃x,w.cell? ⟨b,o+j,none⟩=some x/\VR E a x:=by
 unfold row at hr;split at hr;rename_i i off';split at hr;rename_i l' hL;simp at hr;obtain⟨rfl,rfl⟩:=hr;obtain⟨c,hc,rfl⟩:=hv;obtain⟨c',cs,ty,fr,h1,h2,h3,h4,h5,h6⟩:=h.blk i _ hL;rw[hc]at h1;cases h1;refine⟨c.blk,c.off,rfl,λj a ha=>?_⟩;obtain⟨x,h7,h8⟩:=h5 j a ha;exact⟨x,by simp[World.cell?,h2,h7],h8⟩;rename_i l' hL;simp at hr;obtain⟨rfl,rfl⟩:=hr;obtain⟨c,hc,rfl⟩:=hv;obtain⟨c',cs,ty,fr,h1,h2,h3,h4,h5,h6⟩:=h.blk i _ hL;rw[hc]at h1;cases h1;refine⟨c.blk,c.off,rfl,λj a ha=>?_⟩;obtain⟨x,h7,h8⟩:=h5 j a ha;exact⟨x,by simp[World.cell?,h2,h7],h8⟩;simp_all;simp at hr;obtain⟨rfl,rfl⟩:=hr;obtain⟨b,o,rfl,hc⟩:=hv;refine⟨b,o,rfl,λj a ha=>?_⟩;obtain⟨x,h1,h2⟩:=hc.get ha;exact⟨x,h.mem _ _ _ h1,h2⟩;simp_all
theorem Addr.add_mk(b o n:Nat):(Addr.mk b o none).add n=⟨b,o+n,none⟩:=by unfold Addr.add;simp
theorem Vv{E:Env}{w:World}{b o:Nat}:∀{l:List AV},(∀(j:Nat) (a:AV),l[j]?=some a->∃x,w.cell? ⟨b,o+j,none⟩=some x/\VR E a x) ->
  ∃cs:List Value,VRL E l cs/\∀(j:Nat) (v:Value),cs[j]?=some v->w.cell? ⟨b,o+j,none⟩=some v
 |[],_=>⟨[],by simp[VRL],amN⟩
 | a::l,h=>by
   obtain⟨x,h1,h2⟩:=h 0 a amN;obtain⟨cs,h3,h4⟩:=Vv (b:=b) (o:=o+1) (l:=l) λj a ha=>by have:=h (j+1) a (by simpa using ha);rwa[show o+(j+1)=o+1+j by omega]at this
   refine⟨x::cs,⟨x,cs,rfl,h2,h3⟩,λj v hv=>?_⟩
   grind
theorem gQ{o:Nat}(h:∀(j:Nat) (a:AV),l[j]?=some a->∃x,w.cell? ⟨b,o+j,none⟩=some x/\VR E a x):
  ∃cs:List Value,VRL E l cs/\(loadCells ⟨b,o,none⟩ l.length).run P w=.ok cs.toArray w:=by
 obtain⟨cs,h1,h2⟩:=Vv h;refine⟨cs,h1,?_⟩;rw[<- h1.length];exact run_loadCells_list w _ cs λj v hv=>by rw[Addr.add_mk];exact h2 j v hv
theorem ij{P:Program}{b:Nat}{ty:TypeId}{fr:Nat×Nat}:∀(vs:List Value) (w:World) (cs:Array Value) (o i:Nat),w.heap[b]?=some (.cells cs ty fr)->(∀v∈vs,Value.one v=true) ->
  o+i+vs.length<=cs.size->(∀k,o+i<=k->k<o+i+vs.length->¬(fr.1<=k/\k<fr.2)) ->
  ∃w' cs',(storeCells ⟨b,o,none⟩ vs i).run P w=.ok () w'/\w'.heap.size=w.heap.size/\(∀k,k≠b->w'.heap[k]?=w.heap[k]?)/\w'.os=w.os/\w'.tape=w.tape/\w'.output=w.output /\
   w'.heap[b]?=some (.cells cs' ty fr)/\cs'.size=cs.size/\∀k,cs'[k]?=if o+i<=k/\k<o+i+vs.length then vs[k-(o+i)]? else cs[k]?
 |[],w,cs,o,i,hb,_,_,_=>⟨w,cs,by simp[storeCells],rfl,λ_ _=>rfl,rfl,rfl,rfl,hb,rfl,λk=>by rw[if_neg amN]⟩
 | v::vs,w,cs,o,i,hb,hone,hlen,hfr=>by
   simp only[ajz]at hlen hfr;have hcell:w.cell? ⟨b,o+i,none⟩=some cs[o+i]:=(by simp[World.cell?,hb]);have hfz:w.frozen? ⟨b,o+i,none⟩=false:=by have:=hfr (o+i) (ajs _) amM;simp[World.frozen?,hb];omega
   have h1:v.oneCell'=true:=by cases v<;>simp_all[Value.one,Value.oneCell']
   have hrun:(store ((⟨b,o,none⟩:Addr).add i) v).run P w=.ok () (w.setCell ⟨b,o+i,none⟩ v):=by rw[run_store P w _ v .plain h1,Addr.add_mk,hcell];simp[hfz]
   have hb':(w.setCell ⟨b,o+i,none⟩ v).heap[b]?=some (.cells (cs.setIfInBounds (o+i) v) ty fr):=by simp[World.setCell,alu,hb]
   obtain⟨w',cs',r1,r2,r3,r4,r5,r6,r7,r8,r9⟩:=ij (P:=P) vs (w.setCell ⟨b,o+i,none⟩ v) (cs.setIfInBounds (o+i) v) o (i+1) hb' (λx hx=>hone x (by simp[hx])) (by simp;omega) (λk h2 h3=>hfr k amM amM);refine⟨w',cs',?_,?_,λk hk=>?_,r4,r5,r6,r7,by simpa using r8,λk=>?_⟩
   .simp only[storeCells,ajB,hrun,ajC];omega
   .simp[*]
   .rw[r3 k hk];simp only[World.setCell,alu]
    grind
   grind
theorem N7{k:Nat}(h:off+vals.length<=l.length):(dw l off vals)[k]?=if off<=k/\k<off+vals.length then vals[k-off]? else l[k]?:=by
 simp only[dw,ajD]
 grind
theorem kz(h:off+vals.length<=l.length):(dw l off vals).length=l.length:=by simp[dw];omega
theorem OU(h:Rel w0 S0 E L w)(hi:L[i]?=some (.cells l))(hc:E.loc i=some c){vs:List Value}(hv:VRL E vals vs)(hone:∀a∈vals,AV.one a=true)(hlen:off+vals.length<=l.length):
  ∃w',(storeCells ⟨c.blk,c.off+off,none⟩ vs).run P w=.ok () w'/\Rel w0 S0 E (L.set i (.cells (dw l off vals))) w':=by
 obtain⟨c',cs,ty,fr,h1,h2,h3,h4,h5,h6⟩:=h.blk i _ hi;rw[hc]at h1;cases h1;have hl:=hv.length;obtain⟨w',cs',r1,r2,r3,r4,r5,r6,r7,r8,r9⟩:=ij (P:=P) vs w cs (c.off+off) 0 h2 (λx hx=>by obtain⟨j,hj⟩:=alm.1 hx;have hj':j<vals.length:=(by have:=(ajr.1 hj).1;omega);obtain⟨y,h7,h8⟩:=hv.get (ajF hj');rw[hj]at h7;cases h7;exact h8.one (hone _ (aky hj'))) amM (λk h7 h8=>h6 k amM amM)
 refine⟨w',r1,h.turn hi rfl hc r2 r3 r4 r5 r6 ?_ amN⟩;refine⟨c,cs',ty,fr,hc,r7,amM,by rw[kz hlen];exact h4,λj a ha=>?_,h6⟩;rw[N7 hlen]at ha;by_cases h7:off<=j/\j<off+vals.length;rw[if_pos h7]at ha;obtain⟨x,h8,h9⟩:=hv.get ha
 grind
 grind
theorem abN(h:Rel w0 S0 E L w)(hi:L[i]?=some (.bytes l))(hc:E.loc i=some c){vs:List Value}(hv:VRL E vals vs)(hone:∀a∈vals,AV.one a=true)(hlen:off+vals.length<=l.length):
  ∃w',(storeCells ⟨c.blk,c.off+off,none⟩ vs).run P w=.ok () w'/\Rel w0 S0 E (L.set i (.bytes (dw l off vals))) w':=by
 obtain⟨c',cs,ty,fr,h1,h2,h3,h4,h5,h6⟩:=h.blk i _ hi;rw[hc]at h1;cases h1;have hl:=hv.length;obtain⟨w',cs',r1,r2,r3,r4,r5,r6,r7,r8,r9⟩:=ij (P:=P) vs w cs (c.off+off) 0 h2 (λx hx=>by obtain⟨j,hj⟩:=alm.1 hx;have hj':j<vals.length:=(by have:=(ajr.1 hj).1;omega);obtain⟨y,h7,h8⟩:=hv.get (ajF hj');rw[hj]at h7;cases h7;exact h8.one (hone _ (aky hj'))) amM (λk h7 h8=>h6 k amM amM)
 refine⟨w',r1,h.turn hi rfl hc r2 r3 r4 r5 r6 ?_ amN⟩;refine⟨c,cs',ty,fr,hc,r7,amM,by rw[kz hlen];exact h4,λj a ha=>?_,h6⟩;rw[N7 hlen]at ha;rw[r9];by_cases h7:off<=j/\j<off+vals.length;rw[if_pos h7]at ha;rw[if_pos amM];obtain⟨x,h8,h9⟩:=hv.get ha
 grind
 grind
inductive EqK where
 |bool|ptr|slice|map|func|iface
 deriving DecidableEq,Inhabited
inductive yB where
 |int|str|bool
 deriving DecidableEq,Inhabited
inductive jD where
 |int|str|bool
 |st (ks:List yB)
 deriving DecidableEq,Inhabited
inductive LOp where
 |mv (x:Opd)
 |pick (c a b:Opd)
 |alloc (z:List AV)
 |box (x:Opd)
 |build (z:List AV) (ps:List (Nat×Nat×Opd))
 |bslice (own:Bool) (sz n:Nat) (z:List AV) (ps:List (Nat×Nat×Opd))
 |load (agg:Bool) (sz:Nat) (a:Opd)
 |store (sz:Nat) (a x:Opd)
 |nilchk (x:Opd)
 |bin (op:BinOp) (x y:Opd)
 |eqk (neg:Bool) (k:EqK) (x y:Opd)
 |eq2 (neg:Bool) (x y:Opd)
 |slnil (neg:Bool) (x:Opd)
 |un (op:UnOp) (x:Opd)
 |conv (k:IntKind) (x:Opd)
 |sconv (x:Opd)
 |b2s (x:Opd)
 |s2b (x:Opd)
 |s2bO (x:Opd)
 |s2bG (x:Opd)
 |rangeS (x:Opd)
 |nextS (x:Opd)
 |mkif (t:TypeId) (x:Opd)
 |mkfn (f:FuncId) (caps:List Opd)
 |mkslice (sz bytes:Nat) (z:List AV) (l c:Opd)
 |slS (x:Opd) (lo hi:Option Opd)
 |slV (sz:Nat) (x:Opd) (lo hi mx:Option Opd)
 |slA (n sz:Nat) (x:Opd) (lo hi:Option Opd)
 |faddr (off:Nat) (x:Opd)
 |field (agg:Bool) (off sz:Nat) (x:Opd)
 |iaddr (sz:Nat) (x i:Opd)
 |iaddrA (n sz:Nat) (x i:Opd)
 |idxS (x i:Opd)
 |extract (x:Opd) (i:Nat)
 |len (str:Bool) (x:Opd)
 |cap (x:Opd)
 |bad
 |appz (sz bytes:Nat) (z:List AV) (a n:Opd)
 |app (own:Nat) (sz bytes:Nat) (z:List AV) (a b:Opd)
 |copy (sz:Nat) (a b:Opd)
 |clear (sz:Nat) (z:List AV) (x:Opd)
 |minmax (mx:Bool) (xs:List Opd)
 |mkmap
 |mget (kd:jD) (ok:Bool) (z:AV) (m k:Opd)
 |mset (kd:jD) (m k v:Opd)
 |mdel (kd:jD) (m k:Opd)
 |mlen (m:Opd)
 |mrange (x:Opd)
 |mnext (x:Opd)
 |mentry (x:Opd)
 |call (f:FuncId) (xs:List Opd)
 |callv (f:Opd) (xs:List Opd)
 deriving Inhabited
def lV(l:List Operand):Option (List Opd):=l.mapM bJ
def sY:Option Operand->Option (Option Opd)
 |none=>some none
 |some x=>(bJ x).map some
def cL(P:Program)(t:TypeId):Option Nat:=(P.info? t).map (·.size)
def VN(P:Program)(t:TypeId):Option Nat:=(P.info? t).map (·.bytes)
def zOf(P:Program)(t:TypeId):Option (List AV):=((P.info? t).bind (·.zero)).bind ahE
def ic(P:Program)(t:TypeId):Option Bool :=
 match P.underlying t with
 |some (.struct _)|some (.array _ _)=>some true
 |some _=>some false
 |none=>none
def fq(z:List AV):Nat->List AV
 |0=>[]
 |n+1=>z++fq z n
def QT(P:Program)(d:TypeDesc)(i:Nat):Option (Nat×Nat):=
 match d with
 | .struct fs=>match fs.toList[i]? with
   |some f=>(cL P f.type).map λs=>(f.offset,s)
   |none=>none
 |.array _ e|.slice e=>(cL P e).map λs=>(i*s,s)
 |_=>none
def gp(P:Program)(d:TypeDesc):List (Nat×Operand)->Option (List (Nat×Nat×Opd))
 |[]=>some []
 | (i,x)::l=>match QT P d i,bJ x,gp P d l with
   |some (o,s),some y,some m=>some ((o,s,y)::m)
   |_,_,_=>none
def xX(P:Program)(own:Nat)(s d:TypeId)(x:Opd):Option LOp :=
 match P.underlying s,P.underlying d with
 |some (.int _),some (.int k)=>some (.conv k x)
 |some .string,some .string=>some (.sconv x)
 | some (.slice e),some .string=>match P.underlying e with
   |some (.int .u8)=>some (.b2s x)
   |_=>none
 | some .string,some (.slice e)=>match P.underlying e with
   |some (.int .u8)=>if own=2 then some (.s2bO x)else if own=5 then some (.s2bG x)else some (.s2b x)
   |_=>none
 |_,_=>none
def jo:Operand->Bool
 |.const _=>true
 |_=>false
def U1:Operand->Bool
 |.const (.slice none 0 0)=>true
 |_=>false
def Z9(P:Program)(t:TypeId):Option yB :=
 match P.underlying t with
 |some (.int _)=>some .int
 |some .string=>some .str
 |some .bool=>some .bool
 |_=>none
def YU(P:Program):Nat->List Field->Option (List yB)
 |_,[]=>some []
 | i,f::fs=>if f.offset=i/\f.name ≠ "_" then match Z9 P f.type,YU P (i+1) fs with
   |some k,some ks=>some (k::ks)
   |_,_=>none
   else none
def fV(P:Program)(kt:TypeId):Option jD :=
 match P.underlying kt with
 |some (.int _)=>some .int
 |some .string=>some .str
 |some .bool=>some .bool
 |some (.struct fs)=>if P.stoodInHeld kt=false then(YU P 0 fs.toList).map .st else none
 |_=>none
def aej(P:Program)(t:TypeId):Bool:=match fV P t with
 |some (.st [.str,.str]) => !P.eqGuardType P.depth t
 |_=>false
def Of(P:Program)(op:BinOp)(t:TypeId)(x y:Operand):Option LOp :=
 match bJ x,bJ y with
 | some x',some y'=>match P.underlying t with
   |some (.int _)|some .string=>some (.bin op x' y')
   | some d=>match op,d with
     |.eql,.bool=>some (.eqk false .bool x' y')
     |.neq,.bool=>some (.eqk true .bool x' y')
     |.eql,.pointer _=>some (.eqk false .ptr x' y')
     |.neq,.pointer _=>some (.eqk true .ptr x' y')
     |.eql,.slice _=>if U1 y=true then some (.slnil false x')else none
     |.neq,.slice _=>if U1 y=true then some (.slnil true x')else none
     |.eql,.map _ _=>some (.eqk false .map x' y')
     |.neq,.map _ _=>some (.eqk true .map x' y')
     |.eql,.func _ _ _=>some (.eqk false .func x' y')
     |.neq,.func _ _ _=>some (.eqk true .func x' y')
     |.eql,.interface _=>if jo x ||jo y then some (.eqk false .iface x' y')else none
     |.neq,.interface _=>if jo x ||jo y then some (.eqk true .iface x' y')else none
     |.eql,.struct _=>if aej P t=true then some (.eq2 false x' y')else none
     |.neq,.struct _=>if aej P t=true then some (.eq2 true x' y')else none
     |_,_=>none
   |none=>none
 |_,_=>none
def ahz:yB->AV->Bool
 |.int,.int _ _=>true
 |.str,.str _=>true
 |.bool,.bool _=>true
 |_,_=>false
def p0:List yB->List AV->Bool
 |[],[]=>true
 |k::ks,a::l=>ahz k a&&p0 ks l
 |_,_=>false
def bw:jD->AV->Bool
 |.int,.int _ _=>true
 |.str,.str _=>true
 |.bool,.bool _=>true
 |.st ks,.agg l=>p0 ks l
 |_,_=>false
def UY:AV->AV->Option Bool
 |.int k a,.int j b=>if k=j then some (decide (a=b))else none
 |.str a,.str b=>some (decide (a=b))
 |.bool a,.bool b=>some (decide (a=b))
 |_,_=>none
def Fi:List AV->List AV->Option Bool
 |[],[]=>some true
 | a::l,b::m=>match UY a b with
   |some true=>Fi l m
   |r=>r
 |_,_=>none
def Fs:AV->AV->Option Bool
 |.int k a,.int j b=>if k=j then some (decide (a=b))else none
 |.str a,.str b=>some (decide (a=b))
 |.bool a,.bool b=>some (decide (a=b))
 |.agg l,.agg m=>Fi l m
 |_,_=>none
def cY(k:AV):List (AV×AV×Nat)->Nat->Option (Option (Nat×AV))
 |[],_=>some none
 | (q,x,_)::l,i=>match Fs k q with
   |some true=>some (some (i,x))
   |some false=>cY k l (i+1)
   |none=>none
def ad8(k v:AV):List (AV×AV×Nat)->Nat->List (AV×AV×Nat)
 |[],_=>[]
 |(_,_,b)::l,0=>(k,v,b)::l
 |e::l,j+1=>e::ad8 k v l j
def ad7(es:List (AV×AV×Nat))(since:Nat)(seen:List Nat)(last:Nat):Option (Option (AV×AV×Nat)):=
 if(!seen.isEmpty && !es.isEmpty&&es.all λe=>decide (last<=e.2.2))=true then none else
 match(es.filter λe => !seen.contains e.2.2).filter (λe=>decide (e.2.2<since)),(es.filter λe => !seen.contains e.2.2).filter (λe=>decide (since<=e.2.2))with
 |[],[]=>some none
 |[e],[]=>some (some e)
 |_,_=>none
def WM(L:List Blk)(i j since:Nat)(seen:List Nat)(ck:Nat):Option (AV×AV×Nat)->List Blk
 |none=>L
 |some e=>L.set i (.miter (some j) since (seen++[e.2.2]) ck)
def QW:Option (AV×AV×Nat)->AV
 |none=>.tup [.bool false]
 |some e=>.tup [.bool true,e.1,e.2.1]
def mat(es:List (AV×AV×Nat))(ck:Nat)(seen:List Nat)(stepped:Nat):Option (AV×AV×Nat):=
 match seen.getLast? with
 |some b=>if ck=stepped then es.find? (λe=>Nat.beq e.2.2 b)else none
 |none=>none
def ac5(P:Program)(t:TypeId):Option AV:=((P.info? t).bind (·.zero)).bind agh
def db(P:Program)(own:Nat)(b:Builtin)(ts:List TypeId)(xs:List Opd):Option LOp :=
 match b,ts,xs with
 | .len,[t],[x]=>match P.underlying t with
   |some .string=>some (.len true x)
   |some (.slice _)=>some (.len false x)
   |some (.array n _)=>some (.mv (.av (.int .i64 n)))
   |some (.map _ _)=>some (.mlen x)
   |_=>none
 | .cap,[t],[x]=>match P.underlying t with
   |some (.slice _)=>some (.cap x)
   |some (.array n _)=>some (.mv (.av (.int .i64 n)))
   |_=>none
 | .append,[t,t'],[x,y]=>match P.underlying t,P.underlying t' with
   | some (.slice e),some (.slice _)|some (.slice e),some .string=>match cL P e,VN P e,zOf P e with
     |some s,some by',some z=>if z.length=s then some (.app own s by' z x y)else none
     |_,_,_=>none
   | some (.slice e),some (.int _)=>match cL P e,VN P e,zOf P e with
     |some s,some by',some z=>if z.length=s then some (.appz s by' z x y)else none
     |_,_,_=>none
   |_,_=>none
 | .copy,[t,_],[x,y]=>match P.underlying t with
   |some (.slice e)=>(cL P e).map λs=>.copy s x y
   |_=>none
 | .clear,[t],[x]=>match P.underlying t with
   | some (.slice e)=>match cL P e,zOf P e with
     |some s,some z=>if z.length=s then some (.clear s z x)else none
     |_,_=>none
   |_=>none
 | .delete,[t,_],[m,k]=>match P.underlying t with
   |some (.map kt _)=>(fV P kt).map λkd=>.mdel kd m k
   |_=>none
 |.max,_,[x,y]=>some (.minmax true [x,y])
 |.min,_,[x,y]=>some (.minmax false [x,y])
 |_,_,_=>none
def iI(P:Program)(own:Nat)(op:Op):Option LOp :=
 match op with
 |.move x|.assign x=>(bJ x).map .mv
 | .pick c a b=>match bJ c,bJ a,bJ b with
   |some c,some a,some b=>some (.pick c a b)
   |_,_,_=>none
 |.alloc t=>(zOf P t).map .alloc
 |.box _ x=>(bJ x).map .box
 | .build t ps=>match P.underlying t,zOf P t with
   | some d,some z=>match d with
     |.struct fs=>if fs.toList.all (λf=>(cL P f.type).isSome)=true then(gp P d ps.toList).map (.build z)else none
     |.array _ e=>if(cL P e).isSome=true then(gp P d ps.toList).map (.build z)else none
     |_=>none
   |_,_=>none
 | .buildSlice t n ps=>match P.underlying t with
   | some (.slice e)=>match cL P e,zOf P e,gp P (.slice e) ps.toList with
     |some s,some z,some m=>if z.length=s/\n*s<=2^24 then some (.bslice (own == 2) s n (fq z n) m)else none
     |_,_,_=>none
   |_=>none
 | .load t x=>match ic P t,cL P t,bJ x with
   |some g,some s,some y=>some (.load g s y)
   |_,_,_=>none
 | .store t a x=>match cL P t,bJ a,bJ x with
   |some s,some a,some x=>some (.store s a x)
   |_,_,_=>none
 |.nilCheck x=>(bJ x).map .nilchk
 |.binOp op t x y _=>Of P op t x y
 |.unOp op _ x=>(bJ x).map (.un op)
 |.convert s d x=>(bJ x).bind (xX P own s d)
 | .makeInterface t x=>match P.underlying t with
   |some (.interface _)|none=>none
   |some _=>(bJ x).map (.mkif t)
 | .makeFunc fn first caps=>match fn with
   |.func f=>if first.toList.isEmpty=true then(lV caps.toList).map (.mkfn f)else none
   |_=>none
 | .makeSlice t l c=>match P.underlying t with
   | some (.slice e)=>match cL P e,VN P e,zOf P e,bJ l,bJ c with
     |some s,some b,some z,some l,some c=>if z.length=s/\0<s then some (.mkslice s b z l c)else none
     |_,_,_,_,_=>none
   |_=>none
 | .slice t x lo hi mx=>match P.underlying t,bJ x,sY lo,sY hi,sY mx with
   |some .string,some x,some lo,some hi,some none=>some (.slS x lo hi)
   |some (.slice e),some x,some lo,some hi,some mx=>(cL P e).map λs=>.slV s x lo hi mx
   |some (.array n e),some x,some lo,some hi,some none=>(cL P e).map λs=>.slA n s x lo hi
   |_,_,_,_,_=>none
 | .fieldAddr t x f=>match P.underlying t,bJ x with
   | some (.struct fs),some x=>match fs.toList[f]? with
     |some fd=>if(cL P fd.type).getD 0=0 then none else some (.faddr fd.offset x)
     |none=>none
   |_,_=>none
 | .field t x f=>match P.underlying t,bJ x with
   | some (.struct fs),some x=>match fs.toList[f]? with
     | some fd=>match ic P fd.type,cL P fd.type with
       |some g,some s=>some (.field g fd.offset s x)
       |_,_=>none
     |none=>none
   |_,_=>none
 | .indexAddr t x i=>match P.underlying t,bJ x,bJ i with
   |some (.slice e),some x,some i=>(cL P e).map λs=>.iaddr s x i
   |some (.array n e),some x,some i=>(cL P e).map λs=>.iaddrA n s x i
   |_,_,_=>none
 | .index t x i=>match P.underlying t,bJ x,bJ i with
   |some .string,some x,some i=>some (.idxS x i)
   |_,_,_=>none
 |.extract x i=>(bJ x).map (.extract · i)
 | .makeMap t none=>match P.underlying t with
   |some (.map _ _)=>some .mkmap
   |_=>none
 | .lookup t m k ok=>match P.underlying t,bJ m,bJ k with
   | some (.map kt et),some m,some k=>match fV P kt,ac5 P et with
     |some kd,some z=>some (.mget kd ok z m k)
     |_,_=>none
   |_,_,_=>none
 | .mapUpdate t m k v=>match P.underlying t,bJ m,bJ k,bJ v with
   |some (.map kt _),some m,some k,some v=>(fV P kt).map λkd=>.mset kd m k v
   |_,_,_,_=>none
 | .range t x=>match P.underlying t with
   |some .string=>(bJ x).map .rangeS
   |some (.map _ _)=>(bJ x).map .mrange
   |_=>none
 |.next x isS=>if isS=true then(bJ x).map .nextS else(bJ x).map .mnext
 |.entry x=>(bJ x).map .mentry
 | .call c=>match lV c.args.toList with
   | some xs=>match c.callee with
     |.value (.func f)=>some (.call f xs)
     |.value x=>(bJ x).map (.callv · xs)
     |.builtin b=>db P own b c.argTypes.toList xs
     |_=>none
   |none=>none
 |_=>none
def gR(T:Tm):List Opd->Option (List AV)
 |[]=>some []
 | x::l=>match evX T x,gR T l with
   |some a,some m=>some (a::m)
   |_,_=>none
def jq(T:Tm)(z:List AV):List (Nat×Nat×Opd)->Option (List AV)
 |[]=>some z
 | (o,s,x)::l=>match (evX T x).bind AV.cells? with
   |some vals=>if vals.length=s/\o+s<=z.length then jq T (dw z o vals) l else none
   |none=>none
def agG(op:BinOp)(k:IntKind)(a b:Int):Option (Prop×AV):=
 match op with
 |.add=>some (True,.int k (k.wrap (a+b)))
 |.sub=>some (True,.int k (k.wrap (a-b)))
 |.mul=>some (True,.int k (k.wrap (a*b)))
 |.quo=>some (b≠0,.int k (k.wrap (a.tdiv b)))
 |.rem=>some (b≠0,.int k (a.tmod b))
 |.and=>some (True,.int k (k.wrap (BitVec.ofInt k.bits a &&& BitVec.ofInt k.bits b).toNat))
 |.or=>some (True,.int k (k.wrap (BitVec.ofInt k.bits a |||BitVec.ofInt k.bits b).toNat))
 |.xor=>some (True,.int k (k.wrap (BitVec.ofInt k.bits a ^^^ BitVec.ofInt k.bits b).toNat))
 |.andNot=>some (True,.int k (k.wrap (BitVec.ofInt k.bits a &&& ~~~BitVec.ofInt k.bits b).toNat))
 |.eql=>some (True,.bool (decide (a=b)))
 |.neq=>some (True,.bool (!decide (a=b)))
 |.lss=>some (True,.bool (decide (a<b)))
 |.leq=>some (True,.bool (decide (a<=b)))
 |.gtr=>some (True,.bool (decide (b<a)))
 |.geq=>some (True,.bool (decide (b<=a)))
 |_=>none
def agF(op:BinOp)(x y:List UInt8):Option (Prop×AV):=
 match op with
 |.add=>some (((x.length+y.length:Nat):Int)<=9223372036854775807,.str (x++y))
 |.eql=>some (True,.bool (decide (x=y)))
 |.neq=>some (True,.bool (!decide (x=y)))
 |.lss=>some (True,.bool (Op.bytesLess x y))
 |.leq=>some (True,.bool (Op.bytesLess x y ||decide (x=y)))
 |.gtr=>some (True,.bool (!(Op.bytesLess x y ||decide (x=y))))
 |.geq=>some (True,.bool (!Op.bytesLess x y))
 |_=>none
def bin(op:BinOp)(x y:AV):Option (Prop×AV):=
 match op,x,y with
 |.shl,.int k a,.int _ b=>some (0<=b,.int k (k.wrap (a*2^(min b.toNat k.bits))))
 |.shr,.int k a,.int _ b=>some (0<=b,.int k (a.fdiv (2^(min b.toNat k.bits))))
 |op,.int k a,.int k' b=>if k=k' then agG op k a b else none
 |op,.str a,.str b=>agF op a b
 |_,_,_=>none
def eqA(k:EqK)(x y:AV):Option Bool :=
 match k,x,y with
 |.bool,.bool a,.bool b=>some (decide (a=b))
 |.ptr,.nilptr,.nilptr=>some true
 |.ptr,.nilptr,.ptr _ _|.ptr,.nilptr,.iptr _ _|.ptr,.ptr _ _,.nilptr|.ptr,.iptr _ _,.nilptr=>some false
 |.slice,.nilsl,.nilsl=>some true
 |.slice,.nilsl,.lsl _ _ _ _ _|.slice,.lsl _ _ _ _ _,.nilsl=>some false
 |.map,.nilmap,.nilmap=>some true
 |.map,.nilmap,.lmap _|.map,.lmap _,.nilmap=>some false
 |.func,.nilfunc,.nilfunc=>some true
 |.func,.nilfunc,.func _ _|.func,.func _ _,.nilfunc=>some false
 |.iface,.nilif,.nilif=>some true
 |.iface,.nilif,.iface _ _|.iface,.iface _ _,.nilif=>some false
 |_,_,_=>none
def un(op:UnOp)(x:AV):Option AV :=
 match op,x with
 |.neg,.int k n=>some (.int k (k.wrap (0-n)))
 |.not,.bool b=>some (.bool (!b))
 |_,_=>none
def Xi:AV->UInt8
 |.int .u8 n=>UInt8.ofNat n.toNat
 |_=>0
def aaf:AV->Bool
 |.int .u8 _=>true
 |_=>false
def u8s(l:List UInt8):List AV:=l.map λb=>.int .u8 b.toNat
def elems(L:List Blk)(sz:Nat):AV->Option (Prop×List AV×Nat)
 |.nilsl=>some (True,[],0)
 |.sl l n _=>some (l.length=n*sz,l,n)
 |.gsl l n _ s=>some (s=sz,l,n)
 | .lsl i off n _ _=>match L[i]? with
   |some (.cells l)=>some (off+n*sz<=l.length,(l.drop off).take (n*sz),n)
   |some (.bytes l)=>some (off+n*sz<=l.length,(l.drop off).take (n*sz),n)
   |_=>none
 |.str s=>if sz=1 then some (True,u8s s,s.length)else none
 |_=>none
def bnd(T:Tm):Option Opd->Option (Option Int)
 |none=>some none
 | some x=>match evX T x with
   |some (.int _ n)=>some (some n)
   |_=>none
def VT(L:List Blk)(old new:List AV)(n sz:Nat)(dead:Option Nat):AV×List Blk :=
 (.lsl L.length 0 n none sz,(match dead with|some i=>L.set i .dead|none=>L)++[.cells (old++new)])
def app(own : Nat)(sz bytes : Nat)(L : List Blk)(a b : AV): Option (Prop × AV × List Blk) :=
 match elems L sz b with
 |none=>none
 | some (c, new, n) => match a with
   | .sl l m (some k) =>
     if own=1 then some (c/\m=k/\l.length=m*sz/\(m+n)*bytes<=140737488355328/\m+n<=140737488355328,.gsl (l++AV.frzL new) (m+n) L.length sz,L++[.spare (m+n) sz])
     else if own=2 then(if n=0 then some (c/\m<=k,.sl l m (some k),L)else some (c/\m=k/\l.length=m*sz/\(m+n)*bytes<=140737488355328/\m+n<=140737488355328,VT L l new (m+n) sz none))
     else some (c/\m=k/\l.length=m*sz/\(m+n)*bytes<=140737488355328/\m+n<=140737488355328,.sl (l++AV.frzL new) (m+n) none,L)
   | .gsl l m i s=>match L[i]? with
     |some (.spare m' s')=>some (c/\new.all AV.one=true/\s=sz/\m'=m/\s'=sz/\(m+n)*bytes<=140737488355328/\m+n<=140737488355328,.gsl (l++AV.frzL new) (m+n) i sz,L.set i (.spare (m+n) sz))
     |_=>none
   | .lsl i off m cp s=>match L[i]? with
     | some (.cells l) =>
       if s=sz then(if own=4 then(match cp with
         |some rc=>some (c/\new.all AV.one=true/\off+(m+n)*sz<=l.length/\m+n<=rc,.lsl i off (m+n) (some rc) sz,L.set i (.cells (dw l (off+m*sz) new)))
         |none=>none)
        else some (c/\new.all AV.one=true/\off+m*sz<=l.length/\(m+n)*bytes<=140737488355328/\m+n<=140737488355328,VT L ((l.drop off).take (m*sz)) new (m+n) sz (some i)))else none
     |_=>none
   |_=>none
def Vn(s:List UInt8)(p:Nat):Nat×Nat:=Utf8.decode ⟨⟨s⟩⟩ p
def au(T:Tm)(L:List Blk):LOp->Option (Prop×AV×List Blk)
 |.mv x=>(evX T x).map λv=>(True,v,L)
 | .pick c a b=>match evX T c with
   |some (.bool true)=>(evX T a).map λv=>(True,v,L)
   |some (.bool false)=>(evX T b).map λv=>(True,v,L)
   |_=>none
 |.alloc z=>some (True,.ptr L.length 0,L++[.cells z])
 | .box x=>match (evX T x).bind AV.cells? with
   |some l=>some (True,.ptr L.length 0,L++[.cells l])
   |none=>none
 |.build z ps=>(jq T z ps).map λl=>(True,.agg l,L)
 | .bslice own sz n z ps=>match jq T z ps with
   |some l=>if own then some (True,.lsl L.length 0 n (some n) sz,L++[.cells l])else some (True,.sl l n (some n),L)
   |none=>none
 | .load g sz x=>match (evD T x).bind (row L) with
   |some (l,off)=>if g then some (off+sz<=l.length,.agg ((l.drop off).take sz),L)else some (off<l.length,l.getD off .undef,L)
   |none=>none
 | .store sz a x=>match evX T a,(evX T x).bind AV.cells? with
   | some (.ptr i off),some vals=>match L[i]? with
     |some (.cells l)=>if vals.length=sz/\vals.all AV.one=true then some (off+sz<=l.length,.undef,L.set i (.cells (dw l off vals)))else none
     |some (.bytes l)=>if vals.length=sz/\vals.all AV.one=true then some (off+sz<=l.length,.undef,L.set i (.bytes (dw l off vals)))else none
     |_=>none
   |_,_=>none
 | .nilchk x=>match evD T x with
   |some (.ptr i off)=>some (True,.ptr i off,L)
   |some (.iptr l off)=>some (True,.iptr l off,L)
   |some (.iface t v)=>some (True,.iface t v,L)
   |some (.func f c)=>some (True,.func f c,L)
   |_=>none
 | .bin op x y=>match evX T x,evX T y with
   |some a,some b=>(bin op a b).map λ(c,v)=>(c,v,L)
   |_,_=>none
 | .eq2 neg x y=>match evX T x,evX T y with
   |some (.agg [.str a,.str b]),some (.agg [.str c,.str d])=>some (True,.bool (if neg then !decide (a=c/\b=d)else decide (a=c/\b=d)),L)
   |_,_=>none
 | .eqk neg k x y=>match evX T x,evX T y with
   |some a,some b=>(eqA k a b).map λr=>(True,.bool (if neg then !r else r),L)
   |_,_=>none
 | .slnil neg x=>match evX T x with
   |some (.sl _ n _)=>some (True,if n=0 then .anyb else .bool neg,L)
   |some (.gsl _ n _ _)=>some (True,if n=0 then .anyb else .bool neg,L)
   |some (.lsl _ _ n _ _)=>some (True,if n=0 then .anyb else .bool neg,L)
   |_=>none
 | .un op x=>match evX T x with
   |some a=>(un op a).map λv=>(True,v,L)
   |none=>none
 | .conv k x=>match evX T x with
   |some (.int _ n)=>some (True,.int k (k.wrap n),L)
   |_=>none
 | .sconv x=>match evX T x with
   |some (.str s)=>some (True,.str s,L)
   |_=>none
 | .b2s x=>match evX T x with
   |some (.str _)|none=>none
   | some v=>match elems L 1 v with
     |some (c,l,_)=>some (c/\l.all aaf=true,.str (l.map Xi),L)
     |none=>none
 | .s2b x=>match evX T x with
   |some (.str s)=>some (True,.sl (u8s s) s.length none,L)
   |_=>none
 | .s2bO x=>match evX T x with
   |some (.str s)=>some (True,.lsl L.length 0 s.length none 1,L++[.bytes (u8s s)])
   |_=>none
 | .s2bG x=>match evX T x with
   |some (.str s)=>some (True,.gsl (u8s s) s.length L.length 1,L++[.spare s.length 1])
   |_=>none
 | .rangeS x=>match evX T x with
   |some (.str s)=>some (True,.ptr L.length 0,L++[.siter s 0])
   |_=>none
 | .nextS x=>match evX T x with
   | some (.ptr i 0)=>match L[i]? with
     |some (.siter s p)=>if p<s.length then some (True,.tup [.bool true,.int .i64 (p:Int),.int .i32 ((Vn s p).1:Int)],L.set i (.siter s (p+(Vn s p).2)))else some (True,.tup [.bool false],L)
     |_=>none
   |_=>none
 |.mkif t x=>(evX T x).map λv=>(True,.iface t v,L)
 |.mkfn f caps=>(gR T caps).map λl=>(True,.func f l,L)
 | .mkslice sz bytes z l c=>match evX T l,evX T c with
   | some (.int _ n),some (.int _ m) =>
     some (0<=n/\n<=m/\bytes*m<=2^48/\m<2^62,.lsl L.length 0 n.toNat (some m.toNat) sz,L++[.cells (fq z m.toNat)])
   |_,_=>none
 | .slS x lo hi=>match evX T x,bnd T lo,bnd T hi with
   | some (.str s),some lo,some hi =>
     some (0<=lo.getD 0/\lo.getD 0<=hi.getD s.length/\hi.getD s.length<=s.length,.str ((s.drop (lo.getD 0).toNat).take ((hi.getD s.length).toNat-(lo.getD 0).toNat)),L)
   |_,_,_=>none
 | .slV sz x lo hi mx=>match evX T x,bnd T lo,bnd T hi,bnd T mx with
   |some .nilsl,some lo,some hi,some none=>some (lo.getD 0=0/\hi.getD 0=0,.nilsl,L)
   | some (.sl l n cap),some lo,some hi,some none =>
     some (0<=lo.getD 0/\lo.getD 0<=hi.getD n/\hi.getD n<=n,
      .sl ((l.drop ((lo.getD 0).toNat*sz)).take (((hi.getD n).toNat-(lo.getD 0).toNat)*sz)) ((hi.getD n).toNat-(lo.getD 0).toNat) (cap.map (· - (lo.getD 0).toNat)),L)
   | some (.gsl l n _ _),some lo,some (some hi),some (some m) =>
     some (0<=lo.getD 0/\lo.getD 0<=hi/\hi<=n/\hi<=m/\m<=n,
      .sl ((l.drop ((lo.getD 0).toNat*sz)).take ((hi.toNat-(lo.getD 0).toNat)*sz)) (hi.toNat-(lo.getD 0).toNat) (some (m.toNat-(lo.getD 0).toNat)),L)
   | some (.sl l n _),some lo,some (some hi),some (some m) =>
     some (0<=lo.getD 0/\lo.getD 0<=hi/\hi<=n/\hi<=m/\m<=n,
      .sl ((l.drop ((lo.getD 0).toNat*sz)).take ((hi.toNat-(lo.getD 0).toNat)*sz)) (hi.toNat-(lo.getD 0).toNat) (some (m.toNat-(lo.getD 0).toNat)),L)
   |some (.gsl l n _ s),some lo,some hi,some none=>some (s=sz/\0<=lo.getD 0/\lo.getD 0<=hi.getD n/\hi.getD n<=n,
    .sl ((l.drop ((lo.getD 0).toNat*sz)).take (((hi.getD n).toNat-(lo.getD 0).toNat)*sz)) ((hi.getD n).toNat-(lo.getD 0).toNat) none,L)
   | some (.lsl i off n cap s),some lo,some hi,some none =>
     if s=sz then some (0<=lo.getD 0/\lo.getD 0<=hi.getD n/\hi.getD n<=((cap.getD n:Nat):Int),.lsl i (off+(lo.getD 0).toNat*sz) ((hi.getD n).toNat-(lo.getD 0).toNat) (cap.map (· - (lo.getD 0).toNat)) s,L)else none
   | some (.lsl i off n cap s),some lo,some (some hi),some (some m) =>
     if s=sz then some (0<=lo.getD 0/\lo.getD 0<=hi/\hi<=m/\m<=((cap.getD n:Nat):Int),.lsl i (off+(lo.getD 0).toNat*sz) (hi.toNat-(lo.getD 0).toNat) (some (m.toNat-(lo.getD 0).toNat)) s,L)else none
   |_,_,_,_=>none
 | .slA n sz x lo hi=>match evD T x,bnd T lo,bnd T hi with
   | some (.iptr l off),some lo,some hi =>
     some (0<=lo.getD 0/\lo.getD 0<=hi.getD n/\hi.getD n<=n/\off+n*sz<=l.length,
      .sl ((l.drop (off+(lo.getD 0).toNat*sz)).take (((hi.getD n).toNat-(lo.getD 0).toNat)*sz)) ((hi.getD n).toNat-(lo.getD 0).toNat) (some (n-(lo.getD 0).toNat)),L)
   | some (.ptr i off),some lo,some hi=>match L[i]? with
     | some (.cells l)=>some (0<=lo.getD 0/\lo.getD 0<=hi.getD n/\hi.getD n<=n/\off+n * sz<=l.length,
       .lsl i (off+(lo.getD 0).toNat*sz) ((hi.getD n).toNat-(lo.getD 0).toNat) (some (n-(lo.getD 0).toNat)) sz,L)
     |_=>none
   |_,_,_=>none
 | .faddr o x=>match evD T x with
   |some (.ptr i off)=>some (True,.ptr i (off+o),L)
   |some (.iptr l off)=>some (True,.iptr l (off+o),L)
   |_=>none
 | .field g o sz x=>match evX T x with
   |some (.agg l)=>if g then some (o+sz<=l.length,.agg ((l.drop o).take sz),L)else some (o<l.length,l.getD o .undef,L)
   |_=>none
 | .iaddr sz x i=>match evX T x,evX T i with
   |some (.sl l n _),some (.int _ k)=>some (0<=k/\k<n,.iptr l (k.toNat*sz),L)
   |some (.gsl l n _ _),some (.int _ k)=>some (0<=k/\k<n,.iptr l (k.toNat*sz),L)
   |some (.lsl j off n _ _),some (.int _ k)=>some (0<=k/\k<n,.ptr j (off+k.toNat*sz),L)
   |_,_=>none
 | .iaddrA n sz x i=>match evD T x,evX T i with
   |some (.iptr l off),some (.int _ k)=>some (0<=k/\k<n,.iptr l (off+k.toNat*sz),L)
   |some (.ptr j off),some (.int _ k)=>some (0<=k/\k<n,.ptr j (off+k.toNat*sz),L)
   |_,_=>none
 | .idxS x i=>match evX T x,evX T i with
   |some (.str s),some (.int _ k)=>some (0<=k/\k<s.length,.int .u8 (s.getD k.toNat 0).toNat,L)
   |_,_=>none
 | .extract x i=>match evX T x with
   |some (.tup l)=>(l[i]?).map λv=>(True,v,L)
   |_=>none
 | .len true x=>match evX T x with
   |some (.str s)=>some (True,.int .i64 s.length,L)
   |_=>none
 | .len false x=>match evX T x with
   |some .nilsl=>some (True,.int .i64 0,L)
   |some (.sl _ n _)=>some (True,.int .i64 n,L)
   |some (.gsl _ n _ _)=>some (True,.int .i64 n,L)
   |some (.lsl _ _ n _ _)=>some (True,.int .i64 n,L)
   |_=>none
 | .cap x=>match evX T x with
   |some .nilsl=>some (True,.int .i64 0,L)
   |some (.sl _ _ (some c))=>some (True,.int .i64 c,L)
   |some (.lsl _ _ _ (some c) _)=>some (True,.int .i64 c,L)
   |_=>none
 | .appz sz bytes z a n=>match evX T a,evX T n with
   | some (.lsl i off m (some cp) s),some (.int _ k)=>match L[i]? with
     |some (.cells l)=>if s=sz then some (0<=k/\k<=1099511627776/\cp<m+k.toNat/\off+m*sz<=l.length/\(m+k.toNat)*bytes<=140737488355328/\m+k.toNat<=140737488355328,
      .lsl L.length 0 (m+k.toNat) none sz,L++[.cells ((l.drop off).take (m*sz)++fq z k.toNat)])else none
     |_=>none
   |_,_=>none
 | .app own sz bytes _ a b=>match evX T a,evX T b with
   |some a,some b=>app own sz bytes L a b
   |_,_=>none
 | .copy sz a b=>match evX T a,(evX T b).bind (elems L sz) with
   |some .nilsl,some (c,_,_)=>some (c,.int .i64 0,L)
   | some (.lsl i off m _ s),some (c,new,n)=>match L[i]? with
     |some (.cells l)=>if s=sz then some (c/\off+m*sz<=l.length/\(new.take (min n m*sz)).all AV.one=true,.int .i64 (min n m:Nat),L.set i (.cells (dw l off (new.take (min n m*sz)))))else none
     |_=>none
   |_,_=>none
 | .clear sz z x=>match evX T x with
   |some .nilsl=>some (True,.tup [],L)
   | some (.lsl i off m _ s)=>match L[i]? with
     |some (.cells l)=>if s=sz then some (off+m*sz<=l.length,.tup [],L.set i (.cells (dw l off (fq z m))))else none
     |_=>none
   |_=>none
 | .minmax mx [x,y]=>match evX T x,evX T y with
   |some (.int k a),some (.int _ b)=>some (True,.int k (if mx then(if b>a then b else a)else(if b<a then b else a)),L)
   |_,_=>none
 |.mkmap=>some (True,.lmap L.length,L++[.map [] 0])
 | .mget kd ok z m k=>match evX T m,evX T k with
   |some .nilmap,some k=>if bw kd k=true then some (True,if ok then .tup [z,.bool false]else z,L)else none
   | some (.lmap i),some k=>match L[i]? with
     | some (.map es _)=>if bw kd k=true then (match cY k es 0 with
       |some (some (_,v))=>some (True,if ok then .tup [v,.bool true]else v,L)
       |some none=>some (True,if ok then .tup [z,.bool false]else z,L)
       |none=>none)else none
     |_=>none
   |_,_=>none
 | .mset kd m k v=>match evX T m,evX T k,evX T v with
   | some (.lmap i),some k,some v=>match L[i]? with
     | some (.map es ck)=>if bw kd k=true then (match cY k es 0 with
       |some (some (j,_))=>some (True,.undef,L.set i (.map (ad8 k v es j) ck))
       |some none=>some (True,.undef,L.set i (.map (es++[(k,v,ck)]) (ck+1)))
       |none=>none)else none
     |_=>none
   |_,_,_=>none
 | .mdel kd m k=>match evX T m,evX T k with
   |some .nilmap,some k=>if bw kd k=true then some (True,.tup [],L)else none
   | some (.lmap i),some k=>match L[i]? with
     | some (.map es ck)=>if bw kd k=true then (match cY k es 0 with
       |some (some (j,_))=>some (True,.tup [],L.set i (.map (es.eraseIdx j) ck))
       |some none=>some (True,.tup [],L.set i (.map es ck))
       |none=>none)else none
     |_=>none
   |_,_=>none
 | .mrange x=>match evX T x with
   |some .nilmap=>some (True,.ptr L.length 0,L++[.miter none 0 [] 0])
   | some (.lmap i)=>match L[i]? with
     |some (.map es ck)=>some (True,.ptr L.length 0,L++[.miter (some i) ck [] ck])
     |_=>none
   |_=>none
 | .mnext x=>match evX T x with
   | some (.ptr i 0)=>match L[i]? with
     |some (.miter none _ _ _)=>some (True,.tup [.bool false],L)
     | some (.miter (some j) since seen last)=>match L[j]? with
       | some (.map es ck)=>match ad7 es since seen last with
         |some r=>some (True,QW r,WM L i j since seen ck r)
         |none=>none
       |_=>none
     |_=>none
   |_=>none
 | .mentry x=>match evX T x with
   | some (.ptr i 0)=>match L[i]? with
     | some (.miter (some j) since seen st)=>match L[j]? with
       | some (.map es ck)=>match mat es ck seen st with
         |some e=>some (True,.tup [e.1,e.2.1],L)
         |none=>none
       |_=>none
     |_=>none
   |_=>none
 | .mlen m=>match evX T m with
   |some .nilmap=>some (True,.int .i64 0,L)
   | some (.lmap i)=>match L[i]? with
     |some (.map es _)=>some (True,.int .i64 es.length,L)
     |_=>none
   |_=>none
 |_=>none
end Go.Proofs.YtdnfjhflkkpokaaGreatDoor.Av
