/- Joined texts of the walk, made small by a program. -/
import Derived.Test.YtajkbcmleihaoaaGreatDoorZk1
import Derived.MapKept
import Derived.Laws.StructEq
set_option linter.unusedSimpArgs false
set_option linter.unusedVariables false
namespace Go.Proofs.YtajkbcmleihaoaaGreatDoor.Av
open Go
def bK(P:Program)(w0:World)(S0:SB)(E:Env)(L':List Blk)(av:AV)(w:World)(s:Sem Value):Prop :=
 ∃E' v w',s.run P w=.ok v w'/\E.le E'/\VR E' av v/\Rel w0 S0 E' L' w'
section
variable {P:Program}{w0:World}{S0:SB}{E:Env}{L:List Blk}{w:World}
theorem bK.same{av:AV}{v:Value}{s:Sem Value}(a:Rel w0 S0 E L w)(h:s.run P w=.ok v w)(b:VR E av v):bK P w0 S0 E L av w s:=⟨E,v,w,h,.refl E,b,a⟩
theorem bh{t:TypeId}{n:Nat}(h:bG P t=some n):(sizeOf t).run P w=.ok n w:=by unfold bG at h;simp only[abZ]at h;obtain⟨i,a,rfl⟩:=h;simp[sizeOf,typeInfo,a]
theorem xu{t:TypeId}{g:Bool}(h:rS P t=some g):(isAgg t).run P w=.ok g w:=by unfold rS at h;unfold isAgg;split at h<;>simp at h<;>subst h;rename_i c hd;simp[run_underlying hd];rename_i n e hd;simp[run_underlying hd];rename_i d a b hd;simp only[abF,run_underlying hd,abG];rfl
theorem HE{t:TypeId}{z:List AV}(h:zOf P t=some z):∃v,(∀w,(zeroValue t).run P w=.ok v w)/\VRL E z v.cells.toList/\∀a∈z,AV.one a=true:=by unfold zOf at h;rcases h1:P.info? t with _|i;simp_all;rcases h2:i.zero with _|v;simp_all;simp[h1,h2]at h;exact⟨v,λw=>by simp[zeroValue,typeInfo,h1,h2],Sd h⟩
theorem HF{t:TypeId}{z:List AV}(h:zOf P t=some z):∃v,(zeroValue t).run P w=.ok v w/\VRL E z v.cells.toList/\∀a∈z,AV.one a=true :=
 let ⟨v,h1,h2⟩:=HE (E:=E) h
 ⟨v,h1 w,h2⟩
theorem SG{t:TypeId}{p:AV}{v:Value}{l:List AV}{off:Nat}(c:Rel w0 S0 E L w)(e:rS P t=some false)(hr:row L p=some (l,off))(h:VR E p v)(a:off<l.length):
  bK P w0 S0 E L (l.getD off .undef) w (Instr.loadAt t v):=by
 obtain⟨b,o,rfl,f⟩:=J2 c hr h;obtain⟨x,g,d⟩:=f off l[off] (ab0 a);refine .same c (v:=x) ?_ (by rw[abR,ab0 a];exact d);simp[Instr.loadAt,Instr.sureAddr,loadVar,xu e,g]
theorem LF{t:TypeId}{l:List AV}{b o:Nat}(d:rS P t=some true)(c:bG P t=some l.length)(e:∀(j:Nat) (a:AV),l[j]?=some a->∃x,w.cell? ⟨b,o+j,none⟩=some x/\VR E a x):∃cs,VRL E l cs/\(loadVar t ⟨b,o,none⟩).run P w=.ok (.agg ⟨cs⟩) w:=by
 obtain⟨cs,f,g⟩:=iG (P:=P) e;exact⟨cs,f,by simp[loadVar,xu d,bh c,g]⟩
theorem SF{t:TypeId}{p:AV}{v:Value}{l:List AV}{off sz:Nat}(e:Rel w0 S0 E L w)(f:rS P t=some true)(m:bG P t=some sz)(hr:row L p=some (l,off))(q:VR E p v)(n:off+sz<=l.length):
  bK P w0 S0 E L (.agg ((l.drop off).take sz)) w (Instr.loadAt t v):=by
 obtain⟨b,o,rfl,g⟩:=J2 e hr q;have c:((l.drop off).take sz).length=sz:=by simp;omega
 obtain⟨cs,i,k⟩:=LF (P:=P) (w:=w) (b:=b) (o:=o+off) (l:=(l.drop off).take sz) f (by rw[c];exact m) (λj a d=>by have h:j<sz:=(by have:=(aby.1 d).1;omega);rw[acf h,aci]at d;have:=g _ _ d;rwa[<- acD]at this)
 refine .same e (v:=.agg ⟨cs⟩) ?_ ⟨cs,rfl,i⟩;simpa[Instr.loadAt,Instr.sureAddr]using k
theorem Xg{l:List AV}{vs:List Value}{b:List Value}{ty:TypeId}{fr:Nat×Nat}{E':Env}{i:Nat}(g:VRL E l vs)(e:E.le E')(c:E'.loc i=some ⟨w.heap.size,0,vs.length+b.length⟩)(d:∀o,o<=vs.length+b.length->¬(fr.1<=o/\o<fr.2)):
  bf E' {w with heap:=w.heap.push (.cells ⟨vs++b⟩ ty fr)} i (.cells l):=by
 refine⟨_,⟨vs++b⟩,ty,fr,c,aev,aev,by have:=g.length;simp;omega,λj a n=>?_,λo _ h=>d o h⟩;obtain⟨v,f,m⟩:=g.get n;have k:j<vs.length:=(aby.1 f).1;exact⟨v,by simp[abC k,f],VR.mono e _ _ m⟩
theorem rN{l:List AV}{vs:List Value}(c:Rel w0 S0 E L w)(e:VRL E l vs)(a:List Value)(ty:TypeId)(fr:Nat×Nat)(b:∀o,o<=vs.length+a.length->¬(fr.1<=o/\o<fr.2)):
  ∃E',E.le E'/\E'.loc L.length=some ⟨w.heap.size,0,vs.length+a.length⟩/\Rel w0 S0 E' (L++[.cells l]) {w with heap:=w.heap.push (.cells ⟨vs++a⟩ ty fr)}:=by
 have d:E.loc L.length=none:=c.fresh _ (abA _);have:=c.push (.cells ⟨vs++a⟩ ty fr) (.cells l) ⟨w.heap.size,0,vs.length+a.length⟩ rfl rfl (Xg e (Env.le_loc _ d) aev b)
 grind
theorem U9{l:List AV}{vs:List Value}{b:List Value}{ty:TypeId}{fr:Nat×Nat}{E':Env}{i:Nat}(g:VRL E l vs)(e:E.le E')(c:E'.loc i=some ⟨w.heap.size,0,vs.length+b.length⟩)(d:∀o,o<vs.length+b.length->¬(fr.1<=o/\o<fr.2)):
  bf E' {w with heap:=w.heap.push (.cells ⟨vs++b⟩ ty fr)} i (.bytes l):=by
 refine⟨_,⟨vs++b⟩,ty,fr,c,aev,aev,by have:=g.length;simp;omega,λj a n=>?_,λo _ h=>d o h⟩;obtain⟨v,f,m⟩:=g.get n;have k:j<vs.length:=(aby.1 f).1;exact⟨v,by simp[abC k,f],VR.mono e _ _ m⟩
theorem Qz{l:List AV}{vs:List Value}(c:Rel w0 S0 E L w)(e:VRL E l vs)(a:List Value)(ty:TypeId)(fr:Nat×Nat)(b:∀o,o<vs.length+a.length->¬(fr.1<=o/\o<fr.2)):
  ∃E',E.le E'/\E'.loc L.length=some ⟨w.heap.size,0,vs.length+a.length⟩/\Rel w0 S0 E' (L++[.bytes l]) {w with heap:=w.heap.push (.cells ⟨vs++a⟩ ty fr)}:=by
 have d:E.loc L.length=none:=c.fresh _ (abA _);have:=c.push (.cells ⟨vs++a⟩ ty fr) (.bytes l) ⟨w.heap.size,0,vs.length+a.length⟩ rfl rfl (U9 e (Env.le_loc _ d) aev b)
 grind
theorem LH{t:TypeId}{v:Value}{l:List AV}(c:Rel w0 S0 E L w)(b:VRL E l v.cells.toList):
  bK P w0 S0 E (L++[.cells l]) (.ptr L.length 0) w (do pure (.pointer (some (<- newVar t v)))):=by
 obtain⟨E',a,e,d⟩:=rN c b [] t (0,0) aev;refine⟨E',.pointer (some ⟨w.heap.size,0,none⟩),{w with heap:=w.heap.push (.cells v.cells t)},by simp[newVar,newRow],a,?_,by simpa using d⟩;simp only[VR];simp[*]
theorem SH{t:TypeId}{z:List AV}(c:Rel w0 S0 E L w)(b:zOf P t=some z):bK P w0 S0 E (L++[.cells z]) (.ptr L.length 0) w (Instr.alloc t true (.tuple #[])):=by obtain⟨v,a,d,_⟩:=HF (w:=w) (E:=E) b;obtain⟨E',x,w',e,h4⟩:=LH (P:=P) (t:=t) c d;exact⟨E',x,w',by simpa[Instr.alloc,a]using e,h4⟩
theorem U4(cs:List Value):∀(j off:Nat) (z:Array Value),off+j+cs.length<=z.size ->
  ((cs.zipIdx j).foldl (λa (x:Value×Nat)=>a.setIfInBounds (off+x.2) x.1) z).size=z.size /\
  ∀k,((cs.zipIdx j).foldl (λa (x:Value×Nat)=>a.setIfInBounds (off+x.2) x.1) z)[k]?=if off+j<=k/\k<off+j+cs.length then cs[k-(off+j)]? else z[k]?:=by
 induction cs with
 |nil=>intro j off z _;exact⟨rfl,λk=>by rw[if_neg aev];rfl⟩
 | cons c cs ih =>
   intro j off z b;simp only[abU]at b;simp only[List.zipIdx_cons,acI,abU];have:=ih (j+1) off (z.setIfInBounds (off+j) c) (by rw[Array.size_setIfInBounds];omega)
   grind
theorem Mu{T:Tm}{a:Act}(n:TR E T a){place:Nat->Option (Nat×Nat)}{d:TypeDesc}(p:∀i r,Js P d i=some r->place i=some r):∀{ps:List (Nat×Operand)}{m:List (Nat×Nat×Opd)}{z l:List AV}{cells:Array Value},
  fJ P d ps=some m->kN T z m=some l->VRL E z cells.toList->∃cs,Instr.fill place cells (ps.map λ(i,x)=>(i,a.eval x))=some cs/\VRL E l cs.toList
 |[],m,z,l,cells,hm,c,hz=>by simp[fJ]at hm;subst hm;simp[kN]at c;subst c;exact⟨cells,by simp[Instr.fill],hz⟩
 | (i,x)::ps,m,z,l,cells,hm,c,hz=>by
   simp only[fJ]at hm;split at hm<;>simp at hm;rename_i o s y D B w C;subst hm;simp only[kN]at c;split at c<;>try simp at c
   rename_i vals h4;obtain⟨⟨F,G⟩,c⟩:=c;rcases h7:evX T y with _|u
   .simp_all
   .simp[h7]at h4;have A:=ah w h7 n;have g:=p9 h4 A;have e:=g.length;have f:=hz.length;have key:=U4 (a.eval x).cells.toList 0 o cells (by simp at e f⊢;omega);have j:VRL E (bO z o vals) (((a.eval x).cells.toList.zipIdx 0).foldl (λa (x:Value×Nat)=>a.setIfInBounds (o+x.2) x.1) cells).toList:=by
     refine VRL.of_get (by rw[md aeu];simpa using key.1.trans (by simpa using f)) λk b h=>?_
     rw[G6 aeu]at h;rw[aeb,key.2 k];by_cases q:o<=k/\k<o+vals.length
     .rw[if_pos q]at h;rw[if_pos aeu];exact g.get h
     .rw[if_neg q]at h;rw[if_neg aeu];simpa using hz.get h
    obtain⟨cs,v,t⟩:=Mu n p C c j;refine⟨cs,?_,t⟩;simp only[abO,Instr.fill,p _ _ B];rw[if_neg (by simp at e f⊢;omega)];rw[<- v];rw[<- Array.foldl_toList,Array.toList_zipIdx]
end
section
variable {P:Program}{w0:World}{S0:SB}{E:Env}{L:List Blk}{w:World}{T:Tm}{a:Act}
theorem MY:∀(l:List Field),(∀f∈l,(bG P f.type).isSome=true) ->
  (l.mapM (m:=Sem) λf=>do pure (f.offset,<- sizeOf f.type)).run P w=.ok (l.map λf=>(f.offset,(bG P f.type).getD 0)) w
 |[],_=>aev
 | f::l,h=>by
   have a:=h f aev;rw[Option.isSome_iff_exists]at a;obtain⟨n,a⟩:=a;have c:=MY l λg b=>h g (by simp[b])
   rw[adW,abF,abF,bh a];simp_all
theorem Q7{t:TypeId}{b:Array Field}{ps:List (Nat×Operand)}{z l:List AV}{m:List (Nat×Nat×Opd)}(d:TR E T a)(h:Rel w0 S0 E L w)(hd:P.underlying t=some (.struct b))(g:zOf P t=some z)(j:b.toList.all (λf=>(bG P f.type).isSome)=true)(e:fJ P (.struct b) ps=some m)(q:kN T z m=some l):
  bK P w0 S0 E L (.agg l) w (Instr.build t ⟨ps.map λ(i,x)=>(i,a.eval x)⟩):=by
 obtain⟨v,k,o,_⟩:=HF (w:=w) (E:=E) g;obtain⟨cs,s,h4⟩:=Mu (place:=λi=>(b.toList.map λf=>(f.offset,(bG P f.type).getD 0)).toArray[i]?) d (λi r hr=>by simp only[Js]at hr;split at hr<;>simp at hr;rename_i f c;obtain⟨n,p,rfl⟩:=hr;simp[c,p]) e q o
 refine .same h (v:=.agg cs) ?_ ⟨cs.toList,rfl,h4⟩;have:=MY (P:=P) (w:=w) b.toList (abL.1 j);simp only[Instr.build,abF,k,abG,run_underlying hd,Array.mapM_eq_mapM_toList,Sem.run_map,this];simp_all
theorem Q8{t e:TypeId}{n:Nat}{ps:List (Nat×Operand)}{z l:List AV}{m:List (Nat×Nat×Opd)}(c:TR E T a)(g:Rel w0 S0 E L w)(hd:P.underlying t=some (.array n e))(f:zOf P t=some z)(d:fJ P (.array n e) ps=some m)(b:(bG P e).isSome=true)(k:kN T z m=some l):
  bK P w0 S0 E L (.agg l) w (Instr.build t ⟨ps.map λ(i,x)=>(i,a.eval x)⟩):=by
 obtain⟨v,h,j,_⟩:=HF (w:=w) (E:=E) f;rw[Option.isSome_iff_exists]at b;obtain⟨s,b⟩:=b;obtain⟨cs,o,h4⟩:=Mu (place:=λi=>some (i*s,s)) c (λi r hr=>by simp only[Js,b,abQ]at hr;exact hr) d k j
 refine .same g (v:=.agg cs) ?_ ⟨cs.toList,rfl,h4⟩;simp only[Instr.build,abF,h,abG,run_underlying hd,bh b];simp[*]
theorem kj(z:List AV):∀n,(cX z n).length=n*z.length
 |0=>by simp[cX]
 |n+1=>by simp[cX,kj z n,Nat.succ_mul];omega
theorem OZ{z:List AV}(b:0<z.length):∀(n i:Nat),i<n*z.length->(cX z n)[i]?=z[i%z.length]?
 |0,i,h=>by simp at h
 | n+1,i,h=>by
   simp only[cX];rcases ab5 i z.length with a|a
   .rw[abC a,Nat.mod_eq_of_lt a]
   .rw[abN a,OZ b n (i-z.length) (by rw[Nat.succ_mul]at h;omega)];rw[Nat.mod_eq_sub_mod a]
theorem HR{z:List AV}{vs:List Value}(h:VRL E z vs)(n:Nat):VRL E (cX z n) ((List.range (n*vs.length)).map λi=>vs.toArray[i%vs.toArray.size]!):=by
 have d:=h.length;refine VRL.of_get (by simp[kj,d]) λi x a=>?_
 have b:i<n*z.length:=by have:=(aby.1 a).1;rwa[kj]at this
 have c:0<z.length:=by grind
 rw[OZ c n i b]at a;obtain⟨v,e,f⟩:=h.get a;simp[*]
theorem JI:∀{m:List (Nat×Nat×Opd)}{z l:List AV},kN T z m=some l->l.length=z.length
 |[],z,l,h=>by simp[kN]at h;rw[h]
 | (o,s,x)::m,z,l,h=>by
   simp only[kN]at h;split at h<;>try simp at h
   rename_i vals _;obtain⟨⟨a,b⟩,h⟩:=h;rw[JI h,md aeu]
theorem Q9{t e:TypeId}{n s:Nat}{own:Bool}{ps:List (Nat×Operand)}{z l:List AV}{m:List (Nat×Nat×Opd)}(y:TR E T a)(u:Rel w0 S0 E L w)(hd:P.underlying t=some (.slice e))(k:bG P e=some s)(C:zOf P e=some z)(f:z.length=s)(H:n*s<=2^24)(A:fJ P (.slice e) ps=some m)(q:kN T (cX z n) m=some l):
  if own then bK P w0 S0 E (L++[.cells l]) (.lsl L.length 0 n (some n) s) w (Instr.buildSlice t n ⟨ps.map λ(i,x)=>(i,a.eval x)⟩)
  else bK P w0 S0 E L (.sl l n (some n)) w (Instr.buildSlice t n ⟨ps.map λ(i,x)=>(i,a.eval x)⟩):=by
 obtain⟨v,D,o,_⟩:=HF (w:=w) (E:=E) C;have B:v.cells.size=s:=by have:=o.length;simpa[f]using this
 have c:VRL E (cX z n) ((Array.range (n*s)).map (v.cells[· % v.cells.size]!)).toList:=by have:=HR o n;simp_all
 obtain⟨cs,F,h4⟩:=Mu (place:=λi=>some (i*s,s)) y (λi r hr=>by simp only[Js,k,abQ]at hr;exact hr) A q c
 have G:l.length=n*s:=by rw[JI q,kj,f]
 have b:=h4.length;have d:(Instr.buildSlice t n ⟨ps.map λ(i,x)=>(i,a.eval x)⟩).run P w=.ok (.slice (some ⟨w.heap.size,0,none⟩) n n) {w with heap:=w.heap.push (.cells cs e)}:=by by_cases g:n*s=0;have hr:Array.range 0=#[]:=rfl;simp[g,hr]at F;simp[Instr.buildSlice,run_underlying hd,bh k,g,hr,newRow];simp[*];simp[Instr.buildSlice,run_underlying hd,bh k,show ¬(n*s>2^24)by omega,g,D,newRow];simp_all
 split;obtain⟨E',j,h,p⟩:=rN u h4 [] e (0,0) aev;refine⟨E',_,_,d,j,?_,by simpa using p⟩;exact⟨_,n,0,h,rfl,aev,abA _,aev,by simp at b⊢;omega⟩;obtain⟨E',j,h,p,I⟩:=u.imm cs.toList e l h4 [] (0,0);refine⟨E',_,_,d,j,?_,by simpa using h⟩;simp only[VR]
 grind
theorem Su{t:TypeId}{v x:Value}{p:AV}{i off sz:Nat}{l vals:List AV}(g:Rel w0 S0 E L w)(k:bG P t=some sz)(e:p=.ptr i off)(q:VR E p v)(n:L[i]?=some (.cells l))(d:VRL E vals x.cells.toList)(b:vals.all AV.one=true)(a:vals.length=sz)(m:off+sz<=l.length):
  ∃w',(Instr.storeAt t v x).run P w=.ok () w'/\Rel w0 S0 E (L.set i (.cells (bO l off vals))) w':=by
 subst e;obtain⟨c,f,rfl⟩:=q;have o:=d.length;obtain⟨w',h,j⟩:=HJ (P:=P) (off:=off) g n f d (by simpa using b) aeu;refine⟨w',?_,j⟩;have:x.cells.size=sz:=by simpa[a]using o
 simp[Instr.storeAt,Instr.sureAddr,storeVar,bh k,this,h]
theorem Ra{t:TypeId}{v x:Value}{p:AV}{i off sz:Nat}{l vals:List AV}(g:Rel w0 S0 E L w)(k:bG P t=some sz)(e:p=.ptr i off)(q:VR E p v)(n:L[i]?=some (.bytes l))(d:VRL E vals x.cells.toList)(b:vals.all AV.one=true)(a:vals.length=sz)(m:off+sz<=l.length):
  ∃w',(Instr.storeAt t v x).run P w=.ok () w'/\Rel w0 S0 E (L.set i (.bytes (bO l off vals))) w':=by
 subst e;obtain⟨c,f,rfl⟩:=q;have o:=d.length;obtain⟨w',h,j⟩:=Ug (P:=P) (off:=off) g n f d (by simpa using b) aeu;refine⟨w',?_,j⟩;have:x.cells.size=sz:=by simpa[a]using o
 simp[Instr.storeAt,Instr.sureAddr,storeVar,bh k,this,h]
theorem YB{op:UnOp}{x y:AV}{v:Value}(a:Rel w0 S0 E L w)(b:VR E x v)(h:un op x=some y):bK P w0 S0 E L y w (Op.unary op v):=by unfold un at h;split at h<;>simp at h<;>subst h<;>simp only[VR]at b<;>subst b;exact .same a (v:=.int _ _) (by simp[Op.unary,Op.intArith]) rfl;exact .same a (v:=.int _ _) (by simp[Op.unary,Op.intBits]) rfl;exact .same a (v:=.bool _) (by simp[Op.unary]) rfl
theorem U0{op:BinOp}{t:TypeId}{k:IntKind}{m n:Int}{y:AV}{c:Prop}(hR:Rel w0 S0 E L w)(h:YR op k m n=some (c,y))(hc:c):
  bK P w0 S0 E L y w (binOp op t (.int k m) (.int k n)):=by
 cases op<;>simp only[YR,abz,abI,reduceCtorEq]at h<;>obtain⟨rfl,rfl⟩:=h
 case quo=>exact .same hR (v:=.int _ _) (by simp[binOp,Op.intDiv,hc]) rfl
 case rem=>exact .same hR (v:=.int _ _) (by simp[binOp,Op.intDiv,hc]) rfl
 case add|sub|mul=>exact .same hR (v:=.int _ _) (by simp[binOp,Op.intArith]) rfl
 case and|or|xor|andNot=>exact .same hR (v:=.int _ _) (by simp[binOp,Op.intBits]) rfl
 case eql =>
  refine .same hR (v:=.bool (m == n)) (by simp[binOp,Op.intCmp]) ?_;rfl
 case neq =>
  refine .same hR (v:=.bool (m != n)) (by simp[binOp,Op.intCmp]) ?_;rfl
 all_goals exact .same hR (v:=.bool _) (by simp[binOp,Op.intCmp]) rfl
theorem UZ{op:BinOp}{t:TypeId}{x z:List UInt8}{y:AV}{c:Prop}(hR:Rel w0 S0 E L w)(h:YQ op x z=some (c,y))(hc:c):
  bK P w0 S0 E L y w (binOp op t (.string ⟨⟨x⟩⟩) (.string ⟨⟨z⟩⟩)):=by
 have e1:(ByteArray.mk ⟨x⟩).toList=x:=adX x;have e2:(ByteArray.mk ⟨z⟩).toList=z:=adX z;have e3:(x == z)=decide (x=z):=by by_cases h:x=z<;>simp[h]
 cases op<;>simp only[YQ,abz,abI,reduceCtorEq]at h<;>obtain⟨rfl,rfl⟩:=h
 case add =>
  refine .same hR (v:=.string ⟨⟨x++z⟩⟩) ?_ rfl;have hs1:(ByteArray.mk ⟨x⟩).size=x.length:=rfl;have hs2:(ByteArray.mk ⟨z⟩).size=z.length:=rfl;have hm:¬(((x.length+z.length:Nat):Int)>IntKind.i64.max):=by simp_all
  simp only[binOp,Op.stringOp,hs1,hs2,if_neg hm];rfl
 all_goals exact .same hR (v:=.bool _) (by simp[binOp,Op.stringOp,e1,e2,e3];try rfl) rfl
end
section
variable {P:Program}{w0:World}{S0:SB}{E:Env}{L:List Blk}{w:World}{T:Tm}{a:Act}
theorem WO{op:BinOp}{t:TypeId}{x y:AV}{u v:Value}{r:AV}{c:Prop}(f:Rel w0 S0 E L w)(b:VR E x u)(a:VR E y v)(h:bin op x y=some (c,r))(d:c):
  bK P w0 S0 E L r w (binOp op t u v):=by
 unfold bin at h;split at h;simp only[abz,abI]at h;obtain⟨rfl,rfl⟩:=h;simp only[VR]at b a;subst b a;exact .same f (v:=.int _ _) (by simp[binOp,Op.shift,show ¬(_<(0:Int))from Int.not_lt.2 d]) rfl;simp only[abz,abI]at h;obtain⟨rfl,rfl⟩:=h;simp only[VR]at b a;subst b a;exact .same f (v:=.int _ _) (by simp[binOp,Op.shift,show ¬(_<(0:Int))from Int.not_lt.2 d]) rfl;split at h;rename_i e;subst e;simp only[VR]at b a;subst b a;exact U0 f h d;cases h;simp only[VR]at b a;subst b a;exact UZ f h d;cases h
theorem NI(t:TypeId)(x y:Value):Op.equal t x y=Op.equalIn (9999+1) t x y:=rfl
def EqK.fits:EqK->TypeDesc->Bool
 |.bool,.bool|.ptr,.pointer _|.slice,.slice _|.map,.map _ _|.func,.func _ _ _|.iface,.interface _=>true
 |_,_=>false
theorem VR.ptr_shape{i off:Nat}{v:Value}(h:VR E (.ptr i off) v):∃p,v=.pointer (some p):=by simp only[VR]at h;obtain⟨_,_,h⟩:=h;exact⟨_,h⟩
theorem VR.iptr_shape{l:List AV}{off:Nat}{v:Value}(h:VR E (.iptr l off) v):∃p,v=.pointer (some p):=by simp only[VR]at h;obtain⟨_,_,h,_⟩:=h;exact⟨_,h⟩
theorem VR.lsl_shape{i off n s:Nat}{c:Option Nat}{v:Value}(h:VR E (.lsl i off n c s) v):∃p c,v=.slice (some p) n c:=by simp only[VR]at h;obtain⟨_,_,_,_,h,_⟩:=h;exact⟨_,_,h⟩
theorem VR.lmap_shape{i:Nat}{v:Value}(h:VR E (.lmap i) v):∃p,v=.map (some p):=by simp only[VR]at h;obtain⟨_,_,h⟩:=h;exact⟨_,h⟩
theorem VR.func_shape{f:FuncId}{l:List AV}{v:Value}(h:VR E (.func f l) v):∃p,v=.func (.func f) #[] p:=by simp only[VR]at h;obtain⟨_,h,_⟩:=h;exact⟨_,h⟩
theorem VR.iface_shape{t:TypeId}{x:AV}{v:Value}(h:VR E (.iface t x) v):∃p,v=.iface t p:=by simp only[VR]at h;obtain⟨_,h,_⟩:=h;exact⟨_,h⟩
set_option maxHeartbeats 2000000 in
theorem YH{k:EqK}{t:TypeId}{d:TypeDesc}{x y:AV}{u v:Value}{r:Bool}(b:VR E x u)(a:VR E y v)(hd:P.underlying t=some d)(c:k.fits d=true)(h:eqA k x y=some r):
  (Op.equal t u v).run P w=.ok r w/\(∀k m,u≠.int k m)/\(∀s,u≠.string s)/\(∀l,u≠.agg l)/\(u=.nilIface->v=.nilIface->k=.iface)/\(∀k f,u≠.float k f)/\(∀k f g,u≠.complex k f g):=by
 rw[NI];generalize 9999=depth;unfold eqA at h;split at h<;>simp at h<;>subst h<;>cases d<;>simp[EqK.fits]at c
 all_goals
  (first
   |(obtain⟨_,rfl⟩:=b.ptr_shape)|(obtain⟨_,rfl⟩:=b.iptr_shape)|(obtain⟨_,_,rfl⟩:=b.lsl_shape)
   |(obtain⟨_,rfl⟩:=b.lmap_shape)|(obtain⟨_,rfl⟩:=b.func_shape)|(obtain⟨_,rfl⟩:=b.iface_shape)|(simp only[VR]at b;subst b))
  (first
   |(obtain⟨_,rfl⟩:=a.ptr_shape)|(obtain⟨_,rfl⟩:=a.iptr_shape)|(obtain⟨_,_,rfl⟩:=a.lsl_shape)
   |(obtain⟨_,rfl⟩:=a.lmap_shape)|(obtain⟨_,rfl⟩:=a.func_shape)|(obtain⟨_,rfl⟩:=a.iface_shape)|(simp only[VR]at a;subst a))
  (refine⟨?_,aev,aev,aev,aev,aev,aev⟩)
  (simp only[Op.equalIn,abF,run_underlying hd,abG,ab8,Option.isNone,beq_self_eq_true])
 rfl
theorem YC{op:BinOp}{k:EqK}{t:TypeId}{d:TypeDesc}{x y:AV}{u v:Value}{r:Bool}(a:Bool)(b:op=if a then .neq else .eql)(f:Rel w0 S0 E L w)(n:VR E x u)(l:VR E y v)(hd:P.underlying t=some d)(i:k.fits d=true)(h:eqA k x y=some r)(X Y:Operand)(c:k=.iface->(kK X ||kK Y)=true):
  bK P w0 S0 E L (.bool (if a then !r else r)) w (do eqGuard op t X Y u v;binOp op t u v):=by
 obtain⟨j,p,m,n3,n4,o,g⟩:=YH (P:=P) (w:=w) n l hd i h;have e:(eqGuard op t X Y u v).run P w=.ok () w:=by
  subst b;unfold eqGuard;cases a<;>simp
  all_goals
   split
   .have:=c (n4 rfl rfl);cases X<;>cases Y<;>simp[kK]at this<;>simp
   .exact absurd rfl (n3 _)
   .rfl
 refine .same f (v:=.bool (if a then !r else r)) ?_ (by simp[VR]);rw[abF,e,abG];subst b;cases a<;>simp only[if_true,if_false,abT]
 all_goals
  cases u<;>first
   |exact absurd rfl (p _ _)
   |exact absurd rfl (m _)
   |exact absurd rfl (o _ _)
   |exact absurd rfl (g _ _ _)
   |simp[binOp,j]
theorem Sv{op:BinOp}{t e:TypeId}{u:Value}{n:Nat}(a:Bool)(b:op=if a then .neq else .eql)(h:Rel w0 S0 E L w)(hd:P.underlying t=some (.slice e))(j:∃p c,u=.slice p n c/\(p=none->n=0))(X Y:Operand):
  bK P w0 S0 E L (if n=0 then .anyb else .bool a) w (do eqGuard op t X Y u (.slice none 0 0);binOp op t u (.slice none 0 0)):=by
 obtain⟨p,c,rfl,f⟩:=j;have i:(Op.equal t (.slice p n c) (.slice none 0 0)).run P w=.ok p.isNone w:=by rw[NI];generalize 9999=depth;simp only[Op.equalIn,abF,run_underlying hd,abG,ab8,Option.isNone];cases p<;>rfl
 have d:(eqGuard op t X Y (.slice p n c) (.slice none 0 0)).run P w=.ok () w:=by unfold eqGuard;simp
 refine .same h (v:=.bool (if a then !p.isNone else p.isNone)) ?_ ?_;rw[abF,d,abG];subst b;cases a<;>simp[binOp,i];split;exact⟨_,rfl⟩;rename_i g;cases p with
 |none=>exact absurd (f rfl) g
 |some p=>cases a<;>rfl
theorem UY{s d:TypeId}{k:IntKind}{n:Int}{v:Value}{q:IntKind}(c:Rel w0 S0 E L w)(a:∃j,P.underlying s=some (.int j))(hd:P.underlying d=some (.int k))(b:VR E (.int q n) v):
  bK P w0 S0 E L (.int k (k.wrap n)) w (convert s d v):=by
 obtain⟨j,a⟩:=a;simp only[VR]at b;subst b;exact .same c (v:=.int _ _) (by simp[convert,run_underlying a,run_underlying hd,Conv.intToInt]) rfl
theorem Sx{s d:TypeId}{v:Value}{x:AV}(e:Rel w0 S0 E L w)(b:P.underlying s=some .string)(hd:P.underlying d=some .string)(a:VR E x v)(c:∃l,x=.str l):
  bK P w0 S0 E L x w (convert s d v):=by
 obtain⟨l,rfl⟩:=c;simp only[VR]at a;subst a;exact .same e (v:=.string _) (by simp[convert,run_underlying b,run_underlying hd]) rfl
theorem VR.gsl_sl{l:List AV}{n i s:Nat}{v:Value}(h:VR E (.gsl l n i s) v):VR E (.sl l n none) v/\l.length=n*s:=by
 simp only[VR]at h⊢
 grind
theorem HN{sz n k:Nat}{l:List AV}{cap:Option Nat}{v:Value}(h:Rel w0 S0 E L w)(s:VR E (.sl l n cap) v)(y:l.length=n*sz)(i:k<=n):
  (Builtin.lenOf v).run P w=.ok n w/\∃cs,VRL E (l.take (k*sz)) cs/\cs.length=k*sz/\(Builtin.firstCells sz k v).run P w=.ok ⟨cs⟩ w:=by
 have m:k*sz<=n*sz:=acO _ i;have d:(l.take (k*sz)).length=k*sz:=by simp;omega
 obtain⟨p,c,rfl,t,u,e⟩:=s;refine⟨by simp[Builtin.lenOf],?_⟩;rcases e with⟨rfl,rfl,rfl⟩|⟨b,o,rfl,e⟩;have:k=0:=aeu;subst this;exact⟨[],by simp[VRL],aev,by cases p<;>simp[Builtin.firstCells,loadCells,loadCellsFrom]⟩;obtain⟨cs,h4,f⟩:=iG (P:=P) (w:=w) (b:=b) (o:=o) (l:=l.take (k*sz)) λj a r=>by obtain⟨x,q,g⟩:=(e.take (k*sz)).get r;exact⟨x,h.mem _ _ _ q,g⟩
 exact⟨cs,h4,by rw[h4.length,d],by rw[d]at f;simpa[Builtin.firstCells]using f⟩
theorem aZ{sz:Nat}{x:AV}{v:Value}{c:Prop}{l:List AV}{n:Nat}(A:Rel w0 S0 E L w)(f:VR E x v)(h:elems L sz x=some (c,l,n))(z:c):
  (Builtin.lenOf v).run P w=.ok n w/\l.length=n*sz/\∃cs,VRL E l cs/\(Builtin.firstCells sz n v).run P w=.ok ⟨cs⟩ w:=by
 unfold elems at h;split at h;simp only[abz,abI]at h;obtain⟨rfl,rfl,rfl⟩:=h;simp only[VR]at f;subst f;exact⟨by simp[Builtin.lenOf],aev,[],by simp[VRL],by simp[Builtin.firstCells]⟩;rename_i l m cap;simp only[abz,abI]at h;obtain⟨rfl,rfl,rfl⟩:=h;obtain⟨p,cs,u,_,K⟩:=HN (P:=P) A f z (abA _)
 grind
 rename_i l m i s;simp only[abz,abI]at h;obtain⟨rfl,rfl,rfl⟩:=h;subst z;obtain⟨f,z⟩:=f.gsl_sl;obtain⟨p,cs,u,_,K⟩:=HN (P:=P) A f z (abA _)
 grind
 rename_i i off m cap s;split at h;rename_i q I;simp only[abz,abI]at h;obtain⟨rfl,rfl,rfl⟩:=h;simp only[VR]at f;obtain⟨k,O,d,p,rfl,u,K,h4,N⟩:=f;obtain⟨k',J,ty,fr,g1,B,g3,g4,D,M⟩:=A.blk i _ I;rw[p]at g1;cases g1;have e:((q.drop off).take (m*sz)).length=m*sz:=by simp;omega
 refine⟨by simp[Builtin.lenOf],e,?_⟩;rcases acP m with t|t;subst t;exact⟨[],by simp[VRL],by simp[Builtin.firstCells,loadCells,loadCellsFrom]⟩;have hd:=u aeu;subst hd;obtain⟨cs,F,r⟩:=iG (P:=P) (w:=w) (b:=k.blk) (o:=k.off+off) (l:=(q.drop off).take (m*sz)) λj a g=>by have G:j<m*sz:=(by have:=(aby.1 g).1;omega);rw[acf G,aci]at g;obtain⟨x,y,C⟩:=D _ _ g;refine⟨x,?_,C⟩;rw[<- acD]at y;simp[World.cell?,B,y]
 exact⟨cs,F,by rw[e]at r;simpa[Builtin.firstCells]using r⟩;rename_i q I;simp only[abz,abI]at h;obtain⟨rfl,rfl,rfl⟩:=h;simp only[VR]at f;obtain⟨k,O,d,p,rfl,u,K,h4,N⟩:=f;obtain⟨k',J,ty,fr,g1,B,g3,g4,D,M⟩:=A.blk i _ I;rw[p]at g1;cases g1;have e:((q.drop off).take (m*sz)).length=m*sz:=by simp;omega
 refine⟨by simp[Builtin.lenOf],e,?_⟩;rcases acP m with t|t;subst t;exact⟨[],by simp[VRL],by simp[Builtin.firstCells,loadCells,loadCellsFrom]⟩;have hd:=u aeu;subst hd;obtain⟨cs,F,r⟩:=iG (P:=P) (w:=w) (b:=k.blk) (o:=k.off+off) (l:=(q.drop off).take (m*sz)) λj a g=>by have G:j<m*sz:=(by have:=(aby.1 g).1;omega);rw[acf G,aci]at g;obtain⟨x,y,C⟩:=D _ _ g;refine⟨x,?_,C⟩;rw[<- acD]at y;simp[World.cell?,B,y]
 exact⟨cs,F,by rw[e]at r;simpa[Builtin.firstCells]using r⟩;cases h;split at h;rename_i s H;simp only[abz,abI]at h;obtain⟨rfl,rfl,rfl⟩:=h;simp only[VR]at f;subst f;subst H;refine⟨by simp[Builtin.lenOf];rfl,by simp[u8s],s.map λb=>.int .u8 b.toNat,?_,?_⟩;refine VRL.of_get (by simp[u8s]) λi a g=>?_
 simp only[u8s,acy,abZ]at g⊢;obtain⟨b,p,rfl⟩:=g;exact⟨_,⟨b,p,rfl⟩,rfl⟩;have:(ByteArray.mk ⟨s⟩).extract 0 s.length=⟨⟨s⟩⟩:=by apply ByteArray.ext;simp
 simp[Builtin.firstCells,this];cases h;cases h
end
section
variable {P:Program}{w0:World}{S0:SB}{E:Env}{L:List Blk}{w:World}{T:Tm}{a:Act}
theorem N8:∀(l:List AV) (cs:List Value) (s:ByteArray),VRL E l cs->l.all Oz=true ->
  ((forIn (m := Sem) cs s fun c r => match c with
    |.int .u8 n=>pure (.yield (r.push (UInt8.ofNat n.toNat)))
    | _=>do
      stuck (α:=PUnit) "bytesToString: byte expected"
      pure (.yield r)):Sem ByteArray).run P w=.ok ⟨s.data++(l.map LN).toArray⟩ w
 |[],cs,s,h,_=>by simp only[VRL]at h;subst h;simp
 | a::l,cs,s,h,hb=>by
   obtain⟨x,xs,rfl,e,g⟩:=h;simp only[ade,abH]at hb;obtain⟨b,d⟩:=hb;have:∃n,a=.int .u8 n:=by
    unfold Oz at b
    grind
   obtain⟨n,rfl⟩:=this;simp only[VR]at e;subst e;have f:=N8 l xs (s.push (UInt8.ofNat n.toNat)) g d;simp only[List.forIn_cons,abF,ab8,abG];rw[f];congr 1;simp[ByteArray.push,LN]
theorem El(w:World)(c:Array Value)(e:TypeId):World.freeze {w with heap:=w.heap.push (.cells c e)} ⟨w.heap.size,c.size,none⟩ 1={w with heap:=w.heap.push (.cells c e (c.size,c.size+1))}:=by
 simp only[World.freeze,Nat.one_ne_zero,if_false];congr 1
 grind
theorem G8(w:World)(c:Array Value)(e:TypeId):World.shape? {w with heap:=w.heap.push (.cells c e)} w.heap.size=some (e,c.size):=by simp only[World.shape?,Array.getElem?_push_size]
theorem WP{s d e:TypeId}{x:AV}{v:Value}{c:Prop}{l:List AV}{n:Nat}(i:Rel w0 S0 E L w)(A:P.underlying s=some (.slice e))(z:P.underlying e=some (.int .u8))(hd:P.underlying d=some .string)(b:VR E x v)(h:elems L 1 x=some (c,l,n))(q:c)(o:l.all Oz=true)(D:∀t,x≠.str t):bK P w0 S0 E L (.str (l.map LN)) w (convert s d v):=by
 obtain⟨y,C,cs,j,h4⟩:=aZ (P:=P) i b h q;refine .same i (v:=.string ⟨⟨l.map LN⟩⟩) ?_ (by simp[VR]);have g:∃a n c,v=.slice a n c:=by cases x<;>simp[elems]at h;simp_all;simp only[VR]at b;exact⟨_,_,_,b⟩;simp only[VR]at b;obtain⟨_,_,rfl,_⟩:=b;exact⟨_,_,_,rfl⟩;obtain⟨_,_,rfl⟩:=b.lsl_shape;exact⟨_,_,_,rfl⟩;simp only[VR]at b;obtain⟨_,_,rfl,_⟩:=b;exact⟨_,_,_,rfl⟩
 obtain⟨a,m,k,rfl⟩:=g;have u:m=n:=by simpa[Builtin.lenOf]using y
 subst u;have f:(convert s d (.slice a m k)).run P w=(Conv.bytesToString (.slice a m k)).run P w:=by simp[convert,run_underlying A,run_underlying hd,run_underlying z]
 rw[f];cases a with
 | none =>
   have:cs=[]:=(by simpa[Builtin.firstCells]using h4.symm);subst this;have B:l=[]:=(by have:=j.length;simpa using this.symm);subst B;rfl
 | some p =>
   simp only[Builtin.firstCells,Nat.mul_one]at h4;simp only[Conv.bytesToString,abF,h4,abG];have:=N8 (P:=P) (w:=w) l cs ByteArray.empty j o;rw[show(⟨cs⟩:Array Value)=cs.toArray from rfl,List.forIn_toArray];refine(congrArg (λr=>Result.andThen r λa w'=>(Pure.pure (Value.string a):Sem Value).run P w') this).trans ?_;simp
theorem WM{s d e:TypeId}{v:Value}{x:List UInt8}(c:Rel w0 S0 E L w)(z:P.underlying s=some .string)(hd:P.underlying d=some (.slice e))(u:P.underlying e=some (.int .u8))(o:VR E (.str x) v):
  bK P w0 S0 E L (.sl (u8s x) x.length none) w (convert s d v):=by
 simp only[VR]at o;subst o;have m:(ByteArray.mk ⟨x⟩).size=x.length:=rfl;obtain⟨cap,f⟩:∃cap,cap=(Question.appendCap x.length 0 e).cut (w.tape w.drawn (.appendCap x.length 0 e)):=⟨_,rfl⟩;have A:x.length<=cap:=by rw[f];simp[Question.cut]
 have h:VRL E (u8s x) (x.map λb=>Value.int .u8 b.toNat):=VRL.of_get (by simp[u8s]) λi a n=>by simp only[u8s,acy,abZ]at n⊢;obtain⟨b,t,rfl⟩:=n;exact⟨_,⟨b,t,rfl⟩,rfl⟩
 have l:Rel w0 S0 E L {w with drawn:=w.drawn+1}:=⟨c.mem,λi k q=>bf.world (λ_ _=>rfl) (λ_ _ _ _=>rfl) (c.blk i k q),c.fresh,c.own,c.inj,c.tkfresh,c.tkown,c.tkloc,c.tkinj,c.frame,c.size,c.os,c.tape,c.output,c.glob,c.gsz⟩;obtain⟨p,y,r,B,_⟩:=l.imm (x.map λb=>Value.int .u8 b.toNat) e (u8s x) h (List.replicate (cap-x.length) (.int .u8 0)) (x.length+(cap-x.length),x.length+(cap-x.length)+1);have key:(convert s d (.string ⟨⟨x⟩⟩)).run P w=.ok (.slice (some ⟨w.heap.size,0,none⟩) x.length cap) {w with heap:=w.heap.push (.cells ⟨(x.map λb=>Value.int .u8 b.toNat)++List.replicate (cap-x.length) (.int .u8 0)⟩ e (x.length+(cap-x.length),x.length+(cap-x.length)+1)),drawn:=w.drawn+1}:=by
  have g:((ByteArray.mk ⟨x⟩).data.map λb=>Value.int .u8 b.toNat)++Array.replicate (cap-x.length) (.int .u8 0)=⟨(x.map λb=>Value.int .u8 b.toNat)++List.replicate (cap-x.length) (.int .u8 0)⟩:=by simp
  have j:(convert s d (.string ⟨⟨x⟩⟩)).run P w=(Conv.stringToBytes e ⟨⟨x⟩⟩).run P w:=by simp only[convert,abF,run_underlying z,run_underlying hd,abG,run_underlying u]
  rw[j];unfold Conv.stringToBytes;simp only[abF,run_choose,Question.forced,m,<- f,g,newRow,run_newObj,abG,ab8,markStringish,run_shape,abT,if_false];rw[G8 {w with drawn:=w.drawn+1}];simp only[run_freeze,abG];rw[El {w with drawn:=w.drawn+1}];simp
 refine⟨p,.slice (some ⟨w.heap.size,0,none⟩) x.length cap,_,key,y,?_,r⟩;simp only[VR]
 grind
theorem US{s d e:TypeId}{v:Value}{x:List UInt8}(c:Rel w0 S0 E L w)(A:P.underlying s=some .string)(hd:P.underlying d=some (.slice e))(y:P.underlying e=some (.int .u8))(p:VR E (.str x) v):
  bK P w0 S0 E (L++[.bytes (u8s x)]) (.lsl L.length 0 x.length none 1) w (convert s d v):=by
 simp only[VR]at p;subst p;have m:(ByteArray.mk ⟨x⟩).size=x.length:=rfl;obtain⟨cap,f⟩:∃cap,cap=(Question.appendCap x.length 0 e).cut (w.tape w.drawn (.appendCap x.length 0 e)):=⟨_,rfl⟩;have n:x.length<=cap:=by rw[f];simp[Question.cut]
 have h:VRL E (u8s x) (x.map λb=>Value.int .u8 b.toNat):=VRL.of_get (by simp[u8s]) λi a o=>by simp only[u8s,acy,abZ]at o⊢;obtain⟨b,u,rfl⟩:=o;exact⟨_,⟨b,u,rfl⟩,rfl⟩
 have l:Rel w0 S0 E L {w with drawn:=w.drawn+1}:=⟨c.mem,λi k r=>bf.world (λ_ _=>rfl) (λ_ _ _ _=>rfl) (c.blk i k r),c.fresh,c.own,c.inj,c.tkfresh,c.tkown,c.tkloc,c.tkinj,c.frame,c.size,c.os,c.tape,c.output,c.glob,c.gsz⟩;obtain⟨q,z,t,B⟩:=Qz l h (List.replicate (cap-x.length) (.int .u8 0)) e (x.length+(cap-x.length),x.length+(cap-x.length)+1) (by simp;omega);have key:(convert s d (.string ⟨⟨x⟩⟩)).run P w=.ok (.slice (some ⟨w.heap.size,0,none⟩) x.length cap) {w with heap:=w.heap.push (.cells ⟨(x.map λb=>Value.int .u8 b.toNat)++List.replicate (cap-x.length) (.int .u8 0)⟩ e (x.length+(cap-x.length),x.length+(cap-x.length)+1)),drawn:=w.drawn+1}:=by
  have g:((ByteArray.mk ⟨x⟩).data.map λb=>Value.int .u8 b.toNat)++Array.replicate (cap-x.length) (.int .u8 0)=⟨(x.map λb=>Value.int .u8 b.toNat)++List.replicate (cap-x.length) (.int .u8 0)⟩:=by simp
  have j:(convert s d (.string ⟨⟨x⟩⟩)).run P w=(Conv.stringToBytes e ⟨⟨x⟩⟩).run P w:=by simp only[convert,abF,run_underlying A,run_underlying hd,abG,run_underlying y]
  rw[j];unfold Conv.stringToBytes;simp only[abF,run_choose,Question.forced,m,<- f,g,newRow,run_newObj,abG,ab8,markStringish,run_shape,abT,if_false];rw[G8 {w with drawn:=w.drawn+1}];simp only[run_freeze,abG];rw[El {w with drawn:=w.drawn+1}];simp
 refine⟨q,.slice (some ⟨w.heap.size,0,none⟩) x.length cap,_,key,z,?_,B⟩;refine⟨_,cap,0,t,rfl,aev,n,aev,?_⟩;simp_all
theorem UT{s d e:TypeId}{v:Value}{x:List UInt8}(f:Rel w0 S0 E L w)(U:P.underlying s=some .string)(hd:P.underlying d=some (.slice e))(K:P.underlying e=some (.int .u8))(C:VR E (.str x) v):
  bK P w0 S0 E (L++[.spare x.length 1]) (.gsl (u8s x) x.length L.length 1) w (convert s d v):=by
 simp only[VR]at C;subst C;have z:(ByteArray.mk ⟨x⟩).size=x.length:=rfl;obtain⟨cap,g⟩:∃cap,cap=(Question.appendCap x.length 0 e).cut (w.tape w.drawn (.appendCap x.length 0 e)):=⟨_,rfl⟩;have r:x.length<=cap:=by rw[g];simp[Question.cut]
 have p:VRL E (u8s x) (x.map λb=>Value.int .u8 b.toNat):=VRL.of_get (by simp[u8s]) λi a G=>by simp only[u8s,acy,abZ]at G⊢;obtain⟨b,D,rfl⟩:=G;exact⟨_,⟨b,D,rfl⟩,rfl⟩
 have y:Rel w0 S0 E L {w with drawn:=w.drawn+1}:=⟨f.mem,λi k m=>bf.world (λ_ _=>rfl) (λ_ _ _ _=>rfl) (f.blk i k m),f.fresh,f.own,f.inj,f.tkfresh,f.tkown,f.tkloc,f.tkinj,f.frame,f.size,f.os,f.tape,f.output,f.glob,f.gsz⟩;obtain⟨R,M,S,V,X,T,W⟩:=y.imm' (x.map λb=>Value.int .u8 b.toNat) e (u8s x) p (List.replicate (cap-x.length) (.int .u8 0)) (x.length+(cap-x.length),x.length+(cap-x.length)+1);have key:(convert s d (.string ⟨⟨x⟩⟩)).run P w=.ok (.slice (some ⟨w.heap.size,0,none⟩) x.length cap) {w with heap:=w.heap.push (.cells ⟨(x.map λb=>Value.int .u8 b.toNat)++List.replicate (cap-x.length) (.int .u8 0)⟩ e (x.length+(cap-x.length),x.length+(cap-x.length)+1)),drawn:=w.drawn+1}:=by
  have h:((ByteArray.mk ⟨x⟩).data.map λb=>Value.int .u8 b.toNat)++Array.replicate (cap-x.length) (.int .u8 0)=⟨(x.map λb=>Value.int .u8 b.toNat)++List.replicate (cap-x.length) (.int .u8 0)⟩:=by simp
  have t:(convert s d (.string ⟨⟨x⟩⟩)).run P w=(Conv.stringToBytes e ⟨⟨x⟩⟩).run P w:=by simp only[convert,abF,run_underlying U,run_underlying hd,abG,run_underlying K]
  rw[t];unfold Conv.stringToBytes;simp only[abF,run_choose,Question.forced,z,<- g,h,newRow,run_newObj,abG,ab8,markStringish,run_shape,abT,if_false];rw[G8 {w with drawn:=w.drawn+1}];simp only[run_freeze,abG];rw[El {w with drawn:=w.drawn+1}];simp
 have l:Vh w0 S0 R L {w with heap:=w.heap.push (.cells ⟨(x.map λb=>Value.int .u8 b.toNat)++List.replicate (cap-x.length) (.int .u8 0)⟩ e (x.length+(cap-x.length),x.length+(cap-x.length)+1)),drawn:=w.drawn+1} L.length x.length 1 (some ⟨w.heap.size,0,cap⟩):=by rintro k m;cases m;refine⟨⟨_,_,_,Array.getElem?_push_size,by simp;omega,λo D J=>by simp only at J⊢;omega⟩,λo O=>W o (by simpa using O),.inr f.size,λj k' c u N A e=>?_,λj Y H t' k' Q u F q e=>?_⟩;rw[X]at A;have:=f.loc_lt u N A;simp_all;rw[T]at F;have:=f.tok_lt u F q;simp_all
 obtain⟨B,I⟩:=S.addtok (n:=x.length) (sz:=1) l;refine⟨_,.slice (some ⟨w.heap.size,0,none⟩) x.length cap,_,key,M.trans B,?_,I⟩;exact⟨_,cap,rfl,r,by simp[u8s],.inr ⟨_,0,rfl,VRC.mono B _ _ _ V⟩,⟨x.length,1,some ⟨w.heap.size,0,cap⟩⟩,aev,aev,λ_=>⟨rfl,aev,λk m=>by cases m;exact⟨rfl,aev⟩⟩⟩
theorem Q3{t:TypeId}{v:Value}{x:List UInt8}(b:Rel w0 S0 E L w)(c:P.underlying t=some .string)(a:VR E (.str x) v):
  bK P w0 S0 E (L++[.siter x 0]) (.ptr L.length 0) w (Instr.range t v):=by
 simp only[VR]at a;subst a;have:=b.push (.stringIter ⟨⟨x⟩⟩ 0) (.siter x 0) ⟨w.heap.size,0,0⟩ rfl rfl ⟨⟨w.heap.size,0,0⟩,aev,aev,rfl⟩;refine⟨_,.pointer (some ⟨w.heap.size,0,none⟩),_,?_,this.1,?_,this.2⟩;simp[Instr.range,run_underlying c];simp only[VR];simp
theorem Sy{t:TypeId}{v:Value}{i p:Nat}{x:List UInt8}(h:Rel w0 S0 E L w)(n:L[i]?=some (.siter x p))(s:VR E (.ptr i 0) v):
  bK P w0 S0 E (if p<x.length then L.set i (.siter x (p+(NR x p).2))else L) (if p<x.length then .tup [.bool true,.int .i64 (p:Int),.int .i32 ((NR x p).1:Int)]else .tup [.bool false]) w (Instr.next v true t):=by
 obtain⟨c,g,rfl⟩:=s;obtain⟨c',m,j,q⟩:=h.blk i _ n;rw[g]at m;cases m;have d:(ByteArray.mk ⟨x⟩).size=x.length:=rfl;have k:c.blk<w.heap.size:=(acl.1 j).1;have l:(getObj c.blk).run P w=.ok (.stringIter ⟨⟨x⟩⟩ p) w:=by simp[getObj,Sem.run,j]
 have f:∀o,(setObj c.blk o).run P w=.ok () {w with heap:=w.heap.setIfInBounds c.blk o}:=λo=>by simp[setObj,Sem.run,j]
 rw[q];by_cases a:p<x.length;rw[if_pos a,if_pos a];have:=h.turn (w':={w with heap:=w.heap.setIfInBounds c.blk (.stringIter ⟨⟨x⟩⟩ (p+(NR x p).2))}) (k':=.siter x (p+(NR x p).2)) n rfl g aev (λb r=>by simp[adr,Ne.symm r]) rfl rfl rfl
  ⟨c,g,by simp[k],q⟩ (λ_ _ e=>by cases e)
 refine⟨E,.tuple #[.bool true,goInt p,.int .i32 ((NR x p).1:Int)],_,?_,.refl E,?_,this⟩;simp[Instr.next,l,d,a,f,NR];simp[VR,VRL,goInt];rw[if_neg a,if_neg a];refine .same h (v:=.tuple #[.bool false]) (by simp[Instr.next,l,d,a]) ?_;simp[VR,VRL]
end
section
variable {P:Program}{w0:World}{S0:SB}{E:Env}{L:List Blk}{w:World}{T:Tm}{a:Act}
theorem PP{t e:TypeId}{s b:Nat}{z:List AV}{n m:Int}{k j:IntKind}(r:Rel w0 S0 E L w)(hd:P.underlying t=some (.slice e))(F:bG P e=some s)(h:N9 P e=some b)(q:zOf P e=some z)(d:z.length=s)(f:0<=n)(I:n<=m)(H:b*m<=2^48)(J:m<2^62):
  bK P w0 S0 E (L++[.cells (cX z m.toNat)]) (.lsl L.length 0 n.toNat (some m.toNat) s) w (Instr.makeSlice t (.int k n) (.int j m)):=by
 obtain⟨v,g1,l,_⟩:=HF (w:=w) (E:=E) q;have A:v.cells.size=s:=by have:=l.length;simpa[d]using this
 have a:VRL E (cX z m.toNat) ((Array.range (m.toNat*s)).map (v.cells[· % v.cells.size]!)).toList:=by have:=HR l m.toNat;simp_all
 obtain⟨i,G,c⟩:∃i,P.info? e=some i/\i.bytes=b:=by unfold N9 at h;simpa using h
 have g:(typeInfo e).run P w=.ok i w:=by simp[typeInfo,G]
 obtain⟨E',p,o,y⟩:=rN r a [] e (0,0) aev;have C:IntKind.i64.wrap n=n:=by simp only[IntKind.wrap,IntKind.bits,IntKind.signed];simp;omega
 have B:IntKind.i64.wrap m=m:=by simp only[IntKind.wrap,IntKind.bits,IntKind.signed];simp;omega
 refine⟨E',.slice (some ⟨w.heap.size,0,none⟩) n.toNat m.toNat,_,?_,p,?_,y⟩;have D:(decide (m<0) ||decide ((b:Int)*m>2^48))=false:=by simp;omega
 have x:(decide (n<0))=false:=by simp;omega
 have u:(decide (n>m))=false:=by simp;omega
 simp only[Instr.makeSlice,abF,run_underlying hd,abG,asInt,asIntOf,ab8,g,c,C,B,D,x,u,Bool.or_self,abT,if_false,run_askRoom,bh F];by_cases f:m.toNat*s=0;have hr:Array.range 0=#[]:=rfl;simp[f,hr,newRow];simp[f,g1,newRow];congr 2
 grind
 refine⟨_,m.toNat,0,o,rfl,aev,aeu,aev,?_⟩;simp
theorem YN{x:Option Operand}{y:Option Opd}{r:Option Int}(c:TR E T a)(h:uV x=some y)(b:bnd T y=some r):
  (x=none/\r=none)\/∃o k n,x=some o/\r=some n/\a.eval o=.int k n:=by
 cases x with
 |none=>simp[uV]at h;subst h;simp[bnd]at b;exact .inl ⟨rfl,b.symm⟩
 | some o =>
   simp only[uV,abZ]at h;obtain⟨u,d,rfl⟩:=h;simp only[bnd]at b;split at b
   .rename_i k n hn;simp at b;subst b;have:=ah d hn c;simp only[VR]at this;simp[*]
   simp_all
theorem bD{k:IntKind}{n:Int}{y:Nat}{c:BoundsCode}(a:0<=n)(b:n<=y):(Instr.sliceBound (.int k n) y c).run P w=.ok n.toNat w:=by simp[Instr.sliceBound,asIntOf,a,b]
theorem fA{b:Bool}{len cap:Nat}{f g:Option Operand}{c d:Option Int}(h:(f=none/\c=none)\/∃o k n,f=some o/\c=some n/\a.eval o=.int k n)(e:(g=none/\d=none)\/∃o k n,g=some o/\d=some n/\a.eval o=.int k n)(l:0<=c.getD 0)(m:c.getD 0<=d.getD len)(p:d.getD len<=cap)(u:len<=cap):
  (Instr.sliceBounds b len cap (f.map a.eval) (g.map a.eval) none).run P w=.ok ((c.getD 0).toNat,(d.getD len).toNat,cap) w:=by
 rcases h with⟨rfl,rfl⟩|⟨o1,r,t,rfl,rfl,i⟩<;>rcases e with⟨rfl,rfl⟩|⟨v,s,q,rfl,rfl,j⟩<;>simp only[Option.getD_none,acQ]at l m p;rfl;simp only[Instr.sliceBounds,acb,abQ,j,abF,ab8,abG];rw[bD aeu aeu];simp;simp only[Instr.sliceBounds,acb,abQ,i,abF,ab8,abG];rw[bD aeu aeu];simp;simp only[Instr.sliceBounds,acb,abQ,i,j,abF,ab8,abG];rw[bD aeu aeu];simp only[abG];rw[bD aeu aeu];simp
theorem WL{t:TypeId}{v:Value}{x:List UInt8}{f g:Option Operand}{c d:Option Int}(p:Rel w0 S0 E L w)(hd:P.underlying t=some .string)(j:VR E (.str x) v)(i:(f=none/\c=none)\/∃o k n,f=some o/\c=some n/\a.eval o=.int k n)(e:(g=none/\d=none)\/∃o k n,g=some o/\d=some n/\a.eval o=.int k n)(l:0<=c.getD 0)(q:c.getD 0<=d.getD x.length)(r:d.getD x.length<=x.length):
  bK P w0 S0 E L (.str ((x.drop (c.getD 0).toNat).take ((d.getD x.length).toNat-(c.getD 0).toNat))) w (Instr.sliceAt t v (f.map a.eval) (g.map a.eval) none):=by
 simp only[VR]at j;subst j;have h:(ByteArray.mk ⟨x⟩).size=x.length:=rfl;refine .same p (v:=.string ⟨⟨(x.drop (c.getD 0).toNat).take ((d.getD x.length).toNat-(c.getD 0).toNat)⟩⟩) ?_ (by simp[VR]);have m:=fA (P:=P) (w:=w) (b:=false) i e l q r (abA _);simp only[Instr.sliceAt,Instr.slice,abF,run_underlying hd,abG,h,Option.isSome_none,abT,if_false,m];simp only[ab8];congr 2;apply ByteArray.ext;simp
theorem Nu{t:TypeId}{p:Array Field}{f:Nat}{a:Field}{x:AV}{v:Value}(m:Rel w0 S0 E L w)(hd:P.underlying t=some (.struct p))(r:p.toList[f]?=some a)(k:(bG P a.type).getD 0≠0)(j:VR E x v):
  (∀i off,x=.ptr i off->bK P w0 S0 E L (.ptr i (off+a.offset)) w (Instr.fieldAt t v f))/\(∀l off,x=.iptr l off->bK P w0 S0 E L (.iptr l (off+a.offset)) w (Instr.fieldAt t v f)):=by
 obtain⟨n,q⟩:∃n,bG P a.type=some n:=by rcases h:bG P a.type with _|n;simp_all;simp
 simp only[q,acQ]at k;rw[aeb]at r;have d:∀b o,(Instr.fieldAt t (.pointer (some ⟨b,o,none⟩)) f).run P w=.ok (.pointer (some ⟨b,o+a.offset,none⟩)) w:=λb o=>by simp[Instr.fieldAt,run_underlying hd,r,Instr.sureAddr,fieldPlace,bh q,k,Addr.add_mk]
 refine⟨λi off e=>?_,λl off e=>?_⟩<;>subst e<;>simp only[VR]at j;obtain⟨c,g,rfl⟩:=j;exact .same m (d _ _) ⟨c,g,by rw[acD]⟩;obtain⟨b,o,rfl,g⟩:=j;exact .same m (d _ _) ⟨b,o,by rw[acD],g⟩
theorem Nt{t:TypeId}{m:Array Field}{f sz:Nat}{g:Bool}{a:Field}{l:List AV}{v:Value}(k:Rel w0 S0 E L w)(hd:P.underlying t=some (.struct m))(h:m.toList[f]?=some a)(j:rS P a.type=some g)(o:bG P a.type=some sz)(q:VR E (.agg l) v):
  (g=true->a.offset+sz<=l.length->bK P w0 S0 E L (.agg ((l.drop a.offset).take sz)) w (Instr.field t v f))/\(g=false->a.offset<l.length->bK P w0 S0 E L (l.getD a.offset .undef) w (Instr.field t v f)):=by
 rw[aeb]at h;obtain⟨vs,rfl,b⟩:=q;refine⟨λe c=>?_,λe c=>?_⟩<;>subst e;refine .same k (v:=.agg ((⟨vs⟩:Array Value).extract a.offset (a.offset+sz))) (by simp[Instr.field,run_underlying hd,h,asAgg,part,xu j,bh o]) ?_;refine⟨(vs.drop a.offset).take sz,aev,VRL.of_get (by simp[b.length]) λi x d=>?_⟩;have p:i<sz:=by have:=(aby.1 d).1;simp at this;omega
 rw[acf p,aci]at d⊢;exact b.get d;obtain⟨x,n,r⟩:=b.get (ab0 c);refine .same k (v:=x) (by simp[Instr.field,run_underlying hd,h,asAgg,part,xu j,n]) ?_;simp[*]
theorem Hh{t e:TypeId}{sz:Nat}{x:AV}{v:Value}{j:IntKind}{k:Int}(m:Rel w0 S0 E L w)(hd:P.underlying t=some (.slice e))(y:bG P e=some sz)(h:VR E x v)(u:0<=k):
  (∀l n c,x=.sl l n c->k<n->bK P w0 S0 E L (.iptr l (k.toNat*sz)) w (Instr.indexAt t v (.int j k))) /\
  (∀i off n c s,x=.lsl i off n c s->k<n->bK P w0 S0 E L (.ptr i (off+k.toNat*sz)) w (Instr.indexAt t v (.int j k))):=by
 have f:∀b o n c,k<(n:Nat)->(Instr.indexAt t (.slice (some ⟨b,o,none⟩) n c) (.int j k)).run P w=.ok (.pointer (some ⟨b,o+k.toNat*sz,none⟩)) w:=λb o n c a=>by simp[Instr.indexAt,asIntOf,run_underlying hd,u,a,bh y,Addr.add_mk]
 refine⟨λl n c e a=>?_,λi off n c s e a=>?_⟩<;>subst e<;>simp only[VR]at h;obtain⟨p,k',rfl,q,r,g⟩:=h;rcases g with⟨rfl,rfl,rfl⟩|⟨b,o,rfl,g⟩;omega;exact .same m (f _ _ _ _ a) ⟨b,o,rfl,g⟩;obtain⟨c',z,d,q,rfl,r,g,h4⟩:=h;have:=r aeu;subst this;exact .same m (f _ _ _ _ a) ⟨c',q,by rw[acD]⟩
theorem LI{t e:TypeId}{sz n:Nat}{x:AV}{v:Value}{j:IntKind}{k:Int}(d:Rel w0 S0 E L w)(hd:P.underlying t=some (.array n e))(m:bG P e=some sz)(c:VR E x v)(f:0<=k)(g:k<n):
  (∀l off,x=.iptr l off->bK P w0 S0 E L (.iptr l (off+k.toNat*sz)) w (Instr.indexAt t v (.int j k))) /\
  (∀i off,x=.ptr i off->bK P w0 S0 E L (.ptr i (off+k.toNat*sz)) w (Instr.indexAt t v (.int j k))):=by
 have a:∀b o,(Instr.indexAt t (.pointer (some ⟨b,o,none⟩)) (.int j k)).run P w=.ok (.pointer (some ⟨b,o+k.toNat*sz,none⟩)) w:=λb o=>by simp[Instr.indexAt,asIntOf,run_underlying hd,f,g,bh m,Addr.add_mk,Instr.sureAddr]
 refine⟨λl off e=>?_,λi off e=>?_⟩<;>subst e<;>simp only[VR]at c;obtain⟨b,o,rfl,p⟩:=c;exact .same d (a _ _) ⟨b,o,by rw[acD],p⟩;obtain⟨c',h,rfl⟩:=c;exact .same d (a _ _) ⟨c',h,by rw[acD]⟩
theorem UX{t:TypeId}{s:List UInt8}{v:Value}{j:IntKind}{k:Int}(e:Rel w0 S0 E L w)(hd:P.underlying t=some .string)(c:VR E (.str s) v)(d:0<=k)(f:k<s.length):
  bK P w0 S0 E L (.int .u8 (s.getD k.toNat 0).toNat) w (Instr.index t v (.int j k)):=by
 simp only[VR]at c;subst c;have a:k.toNat<s.length:=aeu;refine .same e (v:=.int .u8 (s[k.toNat]).toNat) ?_ (by simp[VR,a]);have:(ByteArray.mk ⟨s⟩)[k.toNat]?=some s[k.toNat]:=by have b:k.toNat<(ByteArray.mk ⟨s⟩).size:=a;rw[getElem?_pos (ByteArray.mk ⟨s⟩) k.toNat b];rfl
 simp[Instr.index,asIntOf,run_underlying hd,d,this]
theorem PQ{l:List AV}{i:Nat}{x:AV}{v:Value}(c:Rel w0 S0 E L w)(e:VR E (.tup l) v)(h:l[i]?=some x):bK P w0 S0 E L x w (Instr.extract v i):=by obtain⟨vs,rfl,a⟩:=e;obtain⟨y,d,b⟩:=a.get h;exact .same c (v:=y) (by simp[Instr.extract,d]) b
end
section
variable {P:Program}{w0:World}{S0:SB}{E:Env}{L:List Blk}{w:World}{T:Tm}{a:Act}
abbrev JV(a:Act)(x:Option Operand)(r:Option Int):Prop:=(x=none/\r=none)\/∃o k n,x=some o/\r=some n/\a.eval o=.int k n
theorem PN{t e:TypeId}{v:Value}{i h:Option Operand}{c d:Option Int}{sz:Nat}(m:Rel w0 S0 E L w)(hd:P.underlying t=some (.slice e))(k:bG P e=some sz)(j:VR E .nilsl v)(g:JV a i c)(f:JV a h d)(n:c.getD 0=0)(o:d.getD 0=0):bK P w0 S0 E L .nilsl w (Instr.sliceAt t v (i.map a.eval) (h.map a.eval) none):=by
 simp only[VR]at j;subst j;have l:=fA (P:=P) (w:=w) (b:=true) (len:=0) (cap:=0) g f aeu (by simp only[Int.natCast_zero];omega) (by simp only[Int.natCast_zero];omega) (abA _);refine .same m (v:=.slice none 0 0) ?_ (by simp[VR]);simp only[Instr.sliceAt,Instr.slice,abF,run_underlying hd,abG,l,bh k,ab8];simp[*]
theorem Nr{t e:TypeId}{v:Value}{u z:Option Operand}{f g:Option Int}{sz n:Nat}{x:AV}(G:Rel w0 S0 E L w)(hd:P.underlying t=some (.slice e))(K:bG P e=some sz)(F:VR E x v)(r:JV a u f)(s:JV a z g)(H:0<=f.getD 0)(J:f.getD 0<=g.getD n):
  (∀ l cap,x=.sl l n cap->g.getD n<=n->bK P w0 S0 E L (.sl ((l.drop ((f.getD 0).toNat * sz)).take (((g.getD n).toNat - (f.getD 0).toNat) * sz)) ((g.getD n).toNat - (f.getD 0).toNat) (cap.map (· - (f.getD 0).toNat))) w
   (Instr.sliceAt t v (u.map a.eval) (z.map a.eval) none)) /\
  (∀ i off cap,x=.lsl i off n cap sz->g.getD n<=((cap.getD n:Nat):Int)->bK P w0 S0 E L (.lsl i (off+(f.getD 0).toNat * sz) ((g.getD n).toNat - (f.getD 0).toNat) (cap.map (· - (f.getD 0).toNat)) sz) w
   (Instr.sliceAt t v (u.map a.eval) (z.map a.eval) none)):=by
 have h:∀p,n=0->g.getD n<=n->(Instr.sliceAt t (.slice p 0 0) (u.map a.eval) (z.map a.eval) none).run P w=.ok (.slice p 0 0) w:=λp Q j=>by
  subst Q;have B:=fA (P:=P) (w:=w) (b:=true) (len:=0) (cap:=0) r s H J j (abA _);simp only[Instr.sliceAt,Instr.slice,abF,run_underlying hd,abG,B,bh K,ab8]
  grind
 have y:∀b o c,n<=c->g.getD n<=c->(Instr.sliceAt t (.slice (some ⟨b,o,none⟩) n c) (u.map a.eval) (z.map a.eval) none).run P w =
   .ok (.slice (some ⟨b,if c=(f.getD 0).toNat then o else o+(f.getD 0).toNat*sz,none⟩) ((g.getD n).toNat-(f.getD 0).toNat) (c-(f.getD 0).toNat)) w:=λb o c N j=>by
  have B:=fA (P:=P) (w:=w) (b:=true) (len:=n) (cap:=c) r s H J j N;simp only[Instr.sliceAt,Instr.slice,abF,run_underlying hd,abG,B,bh K,ab8];split<;>simp[Addr.add_mk]
 refine⟨λl cap I j=>?_,λi off cap I j=>?_⟩<;>subst I<;>simp only[VR]at F;obtain⟨p,c,rfl,g1,C,g3⟩:=F;rcases g3 with⟨rfl,rfl,rfl⟩|⟨b,o,rfl,g3⟩;have O:(f.getD 0).toNat=0:=aeu;have S:(g.getD ((0:Nat):Int)).toNat=0:=aeu;refine .same G (h p rfl j) ?_;rw[O,S];refine⟨p,0,rfl,abA _,λk m=>?_,.inl ⟨rfl,rfl,aev⟩⟩;simp_all;refine .same G (y b o c g1 aeu) ?_;refine⟨_,_,rfl,aeu,λk m=>?_,.inr ⟨b,_,rfl,?_⟩⟩;cases cap with
 |none=>simp at m
 |some q=>simp at m;rw[C q rfl];exact m
 by_cases M:c=(f.getD 0).toNat;have:(g.getD n).toNat-(f.getD 0).toNat=0:=aeu;rw[this];simp[VRC];rw[if_neg M];exact(g3.drop _).take _;obtain⟨c,A,d,R,rfl,g1,C,g3,g4⟩:=F;have D:g.getD n<=A:=by
  cases cap with
  |none=>simp at j;omega
  |some q=>simp at j;rw[g3 q rfl];exact j
 refine .same G (y c.blk d A C D) ?_;refine⟨c,_,_,R,rfl,λT=>?_,aeu,λk m=>?_,?_⟩
 grind
 cases cap with
 |none=>simp at m
 |some q=>simp at m;rw[g3 q rfl];exact m
 have U:(f.getD 0).toNat*sz+(A-(f.getD 0).toNat)*sz=A*sz:=by rw[<- acJ];congr 1;omega
 omega
theorem Pg{t e:TypeId}{v:Value}{k:Option Operand}{q f:Operand}{d:Option Int}{h m:Int}{G C:IntKind}{sz n:Nat}{l:List AV}{cap:Option Nat}(s:Rel w0 S0 E L w)(hd:P.underlying t=some (.slice e))(u:bG P e=some sz)(A:VR E (.sl l n cap) v)(i:JV a k d)(j:a.eval q=.int G h)(g:a.eval f=.int C m)(x:0<=d.getD 0)(F:d.getD 0<=h)(I:h<=n)(M:h<=m)(h4:m<=n):
  bK P w0 S0 E L (.sl ((l.drop ((d.getD 0).toNat*sz)).take ((h.toNat-(d.getD 0).toNat)*sz)) (h.toNat-(d.getD 0).toNat) (some (m.toNat-(d.getD 0).toNat))) w
   (Instr.sliceAt t v (k.map a.eval) (some (a.eval q)) (some (a.eval f))):=by
 obtain⟨p,c,rfl,g1,H,g3⟩:=A;have r:(Instr.sliceBounds true n c (k.map a.eval) (some (a.eval q)) (some (a.eval f))).run P w=.ok ((d.getD 0).toNat,h.toNat,m.toNat) w:=by simp only[Instr.sliceBounds,j,g,abF,if_true];rw[bD aeu aeu];simp only[abG,abF];rw[bD aeu aeu];simp only[abG];rcases i with⟨rfl,rfl⟩|⟨o1,J,K,rfl,rfl,D⟩;simp;simp only[acQ]at x F;simp only[abQ,D,abF];rw[bD aeu aeu];simp
 rcases g3 with⟨rfl,rfl,rfl⟩|⟨b,o,rfl,g3⟩;have z:(d.getD 0).toNat=0:=aeu;have B:h.toNat=0:=aeu;have z3:m.toNat=0:=aeu;refine .same s (v:=.slice p 0 0) ?_ ?_;simp only[Instr.sliceAt,Instr.slice,abF,run_underlying hd,abG,r,bh u,ab8];simp[*];simp only[VR];rw[z,B,z3]
 grind
 refine .same s (v:=.slice (some ⟨b,if m.toNat=(d.getD 0).toNat then o else o+(d.getD 0).toNat*sz,none⟩) (h.toNat-(d.getD 0).toNat) (m.toNat-(d.getD 0).toNat)) ?_ ?_;simp only[Instr.sliceAt,Instr.slice,abF,run_underlying hd,abG,r,bh u,ab8];split<;>simp[Addr.add_mk];refine⟨_,_,rfl,aeu,aev,.inr ⟨b,_,rfl,?_⟩⟩;by_cases y:m.toNat=(d.getD 0).toNat;have:h.toNat-(d.getD 0).toNat=0:=aeu;rw[this];simp[VRC];rw[if_neg y];exact(g3.drop _).take _
theorem Sw{t e:TypeId}{v:Value}{l:Option Operand}{o f:Operand}{b:Option Int}{h m:Int}{G z:IntKind}{sz n i off:Nat}{cap:Option Nat}(C:Rel w0 S0 E L w)(hd:P.underlying t=some (.slice e))(F:bG P e=some sz)(r:VR E (.lsl i off n cap sz) v)(j:JV a l b)(k:a.eval o=.int G h)(g:a.eval f=.int z m)(s:0<=b.getD 0)(D:b.getD 0<=h)(N:h<=m)(h4:m<=((cap.getD n:Nat):Int)):
  bK P w0 S0 E L (.lsl i (off+(b.getD 0).toNat*sz) (h.toNat-(b.getD 0).toNat) (some (m.toNat-(b.getD 0).toNat)) sz) w
   (Instr.sliceAt t v (l.map a.eval) (some (a.eval o)) (some (a.eval f))):=by
 simp only[VR]at r;obtain⟨c,p,d,y,rfl,g1,H,g3,g4⟩:=r;have x:m<=p:=by
  cases cap with
  |none=>simp at h4;omega
  |some q=>simp at h4;rw[g3 q rfl];exact h4
 have u:(Instr.sliceBounds true n p (l.map a.eval) (some (a.eval o)) (some (a.eval f))).run P w=.ok ((b.getD 0).toNat,h.toNat,m.toNat) w:=by simp only[Instr.sliceBounds,k,g,abF,if_true];rw[bD aeu aeu];simp only[abG,abF];rw[bD aeu aeu];simp only[abG];rcases j with⟨rfl,rfl⟩|⟨o1,J,K,rfl,rfl,B⟩;simp;simp only[acQ]at s D;simp only[abQ,B,abF];rw[bD aeu aeu];simp
 refine .same C (v:=.slice (some ⟨c.blk,if m.toNat=(b.getD 0).toNat then d else d+(b.getD 0).toNat*sz,none⟩) (h.toNat-(b.getD 0).toNat) (m.toNat-(b.getD 0).toNat)) ?_ ?_;simp only[Instr.sliceAt,Instr.slice,abF,run_underlying hd,abG,u,bh F,ab8];split<;>simp[Addr.add_mk];simp only[VR];refine⟨c,_,_,y,rfl,λA=>?_,aeu,aev,?_⟩
 grind
 have I:(b.getD 0).toNat*sz+(m.toNat-(b.getD 0).toNat)*sz=m.toNat*sz:=by rw[<- acJ];congr 1;omega
 have M:m.toNat*sz<=p*sz:=acO _ aeu;omega
theorem Q2{t e:TypeId}{v:Value}{h j:Option Operand}{d f:Option Int}{sz n:Nat}{x:AV}(q:Rel w0 S0 E L w)(hd:P.underlying t=some (.array n e))(F:bG P e=some sz)(k:VR E x v)(m:JV a h d)(p:JV a j f)(y:0<=d.getD 0)(D:d.getD 0<=f.getD n)(B:f.getD n<=n):
  (∀ l off,x=.iptr l off->bK P w0 S0 E L (.sl ((l.drop (off+(d.getD 0).toNat * sz)).take (((f.getD n).toNat - (d.getD 0).toNat) * sz)) ((f.getD n).toNat - (d.getD 0).toNat) (some (n - (d.getD 0).toNat))) w
   (Instr.sliceAt t v (h.map a.eval) (j.map a.eval) none)) /\
  (∀ i off l,x=.ptr i off->L[i]?=some (.cells l)->off+n * sz<=l.length->bK P w0 S0 E L (.lsl i (off+(d.getD 0).toNat * sz) ((f.getD n).toNat - (d.getD 0).toNat) (some (n - (d.getD 0).toNat)) sz) w
   (Instr.sliceAt t v (h.map a.eval) (j.map a.eval) none)):=by
 have g:∀b o,(Instr.sliceAt t (.pointer (some ⟨b,o,none⟩)) (h.map a.eval) (j.map a.eval) none).run P w =
   .ok (.slice (some ⟨b,if n=(d.getD 0).toNat then o else o+(d.getD 0).toNat*sz,none⟩) ((f.getD n).toNat-(d.getD 0).toNat) (n-(d.getD 0).toNat)) w:=λb o=>by
  have z:=fA (P:=P) (w:=w) (b:=false) (len:=n) (cap:=n) m p y D B (abA _);simp only[Instr.sliceAt,abF,run_underlying hd,abG,Instr.sureAddr,z,bh F,ab8];split<;>simp[Addr.add_mk]
 refine⟨λl off r=>?_,λi off l r H G=>?_⟩<;>subst r<;>simp only[VR]at k;obtain⟨b,o,rfl,g3⟩:=k;refine .same q (g b _) ?_;refine⟨_,_,rfl,aeu,aev,.inr ⟨b,_,rfl,?_⟩⟩;by_cases A:n=(d.getD 0).toNat;have:(f.getD n).toNat-(d.getD 0).toNat=0:=aeu;rw[this];simp[VRC];rw[if_neg A,acD];exact(g3.drop _).take _;obtain⟨c,u,rfl⟩:=k;obtain⟨c',cs,ty,fr,s,O,M,I,J,N⟩:=q.blk i _ H;rw[u]at s;cases s;refine .same q (g c.blk _) ?_;refine⟨c,_,_,u,rfl,λC=>?_,aeu,aev,?_⟩
 grind
 have K:(d.getD 0).toNat*sz+(n-(d.getD 0).toNat)*sz=n*sz:=by rw[<- acJ];congr 1;omega
 omega
theorem ke(z:Array Value)(n:Nat):(Builtin.zeroCells z n).size=n*z.size:=by simp[Builtin.zeroCells]
theorem Rel.draw(a:Rel w0 S0 E L w)(n:Nat):Rel w0 S0 E L {w with drawn:=n}:=
 ⟨a.mem,λi k b=>bf.world (λ_ _=>rfl) (λ_ _ _ _=>rfl) (a.blk i k b),a.fresh,a.own,a.inj,a.tkfresh,a.tkown,a.tkloc,a.tkinj,a.frame,a.size,a.os,a.tape,a.output,a.glob,a.gsz⟩
theorem j6{t u e ty:TypeId}{sz n m c:Nat}{base:Option Addr}{x:Value}{cs:List Value}(j:P.underlying t=some (.slice e))(d:(∃f,P.underlying u=some (.slice f))\/P.underlying u=some .string)(i:bG P e=some sz)(g:(Builtin.lenOf x).run P w=.ok n w)(h:(Builtin.firstCells sz n x).run P w=.ok ⟨cs⟩ w)(a:m+n<=c):
  (Builtin.append_ #[t,u] ty #[.slice base m c,x]).run P w=match base with
   |none=>.ok (.slice base (m+n) c) w
   |some b=>((storeCells (b.add (m*sz)) cs).run P w).andThen λ_ w'=>.ok (.slice base (m+n) c) w':=by
 unfold Builtin.append_;rcases d with⟨f,d⟩|d
 all_goals
  simp only[ads,acs,adK,abF,run_underlying j,run_underlying d,abG,ab8,bh i,abT,if_false,g,if_pos a,adY,if_true,h];cases base with
  |none=>simp
  |some b=>simp
theorem vd{t u e ty:TypeId}{sz b n m c:Nat}{base:Option Addr}{x z:Value}{cs os:List Value}(H:P.underlying t=some (.slice e))(k:(∃y,P.underlying u=some (.slice y))\/P.underlying u=some .string)(F:bG P e=some sz)(v:N9 P e=some b)(D:∀W,(zeroValue e).run P W=.ok z W)(o:z.cells.size=sz)(E:(Builtin.lenOf x).run P w=.ok n w)(A:(Builtin.firstCells sz n x).run P {w with drawn:=w.drawn+1}=.ok ⟨cs⟩ {w with drawn:=w.drawn+1})(I:(Builtin.firstCells sz m (.slice base m c)).run P {w with drawn:=w.drawn+1}=.ok ⟨os⟩ {w with drawn:=w.drawn+1})(r:c<m+n)(d:(m+n)*b<=140737488355328)(l:m+n<=140737488355328):
  ∃a rest,m+n<=a/\rest.length=(a-(m+n))*sz/\(Builtin.append_ #[t,u] ty #[.slice base m c,x]).run P w =
   .ok (.slice (some ⟨w.heap.size,0,none⟩) (m+n) a) {w with heap:=w.heap.push (.cells ⟨(os++cs)++rest⟩ e),drawn:=w.drawn+1}:=by
 obtain⟨a,h⟩:∃a,a=(Question.appendCap (m+n) c e).cut (w.tape w.drawn (.appendCap (m+n) c e)):=⟨_,rfl⟩;have p:m+n<=a:=by rw[h];simp[Question.cut]
 refine⟨a,(Builtin.zeroCells z.cells (a-(m+n))).toList,p,by simp[ke,o],?_⟩;obtain⟨i,G,q⟩:∃i,P.info? e=some i/\i.bytes=b:=by unfold N9 at v;simpa using v
 have f:∀W,(typeInfo e).run P W=.ok i W:=λW=>by simp[typeInfo,G]
 have s:=growslice_fits (need:=m+n) (old:=c) (bytes:=b) r d;have j:IntKind.i64.max=9223372036854775807:=by decide
 have C:¬(((m+n:Nat):Int)>IntKind.i64.max/\(False\/i.bytes=0)):=by rw[j];omega
 have B:¬(Builtin.nextslicecap (m+n) c*i.bytes>2^48):=by rw[q];omega
 unfold Builtin.append_;rcases k with⟨y,k⟩|k
 all_goals
  simp only[ads,acs,adK,abF,run_underlying H,run_underlying k,abG,ab8,bh F,abT,if_false,E,if_neg (show ¬(m+n<=c)by omega),f,adY,if_true];simp only[if_neg C,if_neg B,f,ab8,abG,abF,run_choose,Question.forced,abT,if_false,<- h,run_askRoom,I,A,D,newRow,run_newObj];have g:((⟨os⟩:Array Value)++(⟨cs⟩:Array Value)++Builtin.zeroCells z.cells (a-(m+n)))=⟨(os++cs)++(Builtin.zeroCells z.cells (a-(m+n))).toList⟩:=by simp
  rw[g]
theorem WQ{own:Nat}{t u e ty:TypeId}{sz bl:Nat}{z:List AV}{x y av:AV}{p v:Value}{c:Prop}{L':List Blk}(B:Rel w0 S0 E L w)(ht:P.underlying t=some (.slice e))(hu:(∃e',P.underlying u=some (.slice e'))\/P.underlying u=some .string)(hs:bG P e=some sz)(hb:N9 P e=some bl)(hz:zOf P e=some z)(cd:z.length=sz)(hx:VR E x p)(hy:VR E y v)(h:app own sz bl L x y=some (c,av,L'))(hc:c):
  bK P w0 S0 E L' av w (Builtin.append_ #[t,u] ty #[p,v]):=by
 have C:Rel w0 S0 E L {w with drawn:=w.drawn+1}:=B.draw _;obtain⟨zv,a6,c4,_⟩:=HE (E:=E) hz;have a5:zv.cells.size=sz:=by have:=c4.length;simpa[cd]using this
 unfold app at h;split at h;cases h;rename_i c1 new n F;have fresh:∀(f:List AV) (os cs:List Value) (m r:Nat) (rest:List Value),VRL E f os->VRL E new cs->f.length=m*sz->new.length=n*sz->m+n<=r->rest.length=(r-(m+n))*sz->∀(L0:List Blk),Rel w0 S0 E L0 {w with drawn:=w.drawn+1} ->
   (∃E',E.le E'/\VR E' (.lsl L0.length 0 (m+n) none sz) (.slice (some ⟨w.heap.size,0,none⟩) (m+n) r)/\Rel w0 S0 E' (L0++[.cells (f++new)]) {w with heap:=w.heap.push (.cells ⟨(os++cs)++rest⟩ e),drawn:=w.drawn+1}):=by
  intro f os cs m r rest ho hn ch cy b7 hr L0 ca;have bk:=ho.append hn
  .obtain⟨E',K,U,r3⟩:=rN ca bk rest e (0,0) aev;refine⟨E',K,?_,r3⟩;simp only[VR];refine⟨_,r,0,U,rfl,aev,b7,aev,?_⟩;have N:=ho.length;have M:=hn.length;have:(m+n)*sz+(r-(m+n))*sz=r*sz:=by rw[<- acJ];congr 1;omega
   grind
 have grown:∀(f:List AV) (os cs:List Value) (m r:Nat) (rest:List Value),VRL E f os->VRL E new cs->f.length=m*sz->new.length=n*sz->m+n<=r->rest.length=(r-(m+n))*sz ->
   ∃E',E.le E'/\Rel w0 S0 E' L {w with heap:=w.heap.push (.cells ⟨(os++cs)++rest⟩ e),drawn:=w.drawn+1}/\VRC E' (f++AV.frzL new) w.heap.size 0/\E'.tok=E.tok /\
    ∀i,(L++[Blk.dead])[i]?≠none->Vh w0 S0 E' L {w with heap:=w.heap.push (.cells ⟨(os++cs)++rest⟩ e),drawn:=w.drawn+1} i (m+n) sz (some ⟨w.heap.size,0,r*sz⟩):=by
  intro f os cs m r rest ho hn ch cy b7 hr;have cm:=VRL.frz _ _ hn;have bk:=ho.append cm;obtain⟨E',K,U,r3,r4,r5,r6⟩:=C.imm' (os++cs) e (f++AV.frzL new) bk rest (0,0);have N:=ho.length;have M:=hn.length;have h4:(m+n)*sz+(r-(m+n))*sz=r*sz:=(by rw[<- acJ];congr 1;omega);have O:(m+n)*sz=m*sz+n*sz:=acJ _ _ _;refine⟨E',K,U,r3,r5,λi _ k I=>?_⟩;cases I;refine⟨⟨_,e,(0,0),by simp;rfl,?_,aev⟩,λo c8=>r6 o (by simp only[abP];omega),.inr B.size,λj k' c A hl cx=>?_,λj n' c7 t' k' _ A co bn=>?_⟩
  .simp only[List.size_toArray,abP];omega
  .have:=B.loc_lt A hl (by rw[<- r4];exact cx);simp only;omega
  .have:=B.tok_lt A (by rw[<- r5];exact co) bn;simp only;omega
 have keep:∀{i:Nat}{k:Blk},L[i]?=some k->(L++[Blk.dead])[i]?≠none:=λ{i k} hi=>by have:=(aby.1 hi).1;simp;omega
 have a4:(AV.frzL new).length=new.length:=AV.frzL_length _;split at h;rename_i l m k;have D:=hx;simp only[VR]at D;obtain⟨W,c',rfl,g1,g2,g3⟩:=D;have:=g2 k rfl;subst this;by_cases ai:own=2;subst ai;simp only[reduceIte,Nat.reduceEqDiff]at h;split at h;rename_i G;subst G;simp only[abz,abI]at h;obtain⟨rfl,rfl,rfl⟩:=h;obtain⟨N,M,cs,O,h4⟩:=aZ (P:=P) B hy F hc.1;have:cs=[]:=by have:=O.length;simp at M;simpa[M]using this
 subst this;refine .same B (v:=.slice W m c') ?_ hx;rw[j6 (ty:=ty) ht hu hs N h4 aeu];cases W<;>simp[storeCells];rename_i G;simp only[abz,abI,Of]at h;obtain⟨rfl,rfl,rfl⟩:=h;obtain⟨Y,k2,X,k4,k5⟩:=hc;subst k2;obtain⟨N,M,_,_,_⟩:=aZ (P:=P) B hy F Y;obtain⟨_,_,cs,O,h4⟩:=aZ (P:=P) C hy F Y;obtain⟨_,_,os,q3,q4⟩:=aZ (P:=P) (sz:=sz) (c:=l.length=m*sz) (l:=l) (n:=m) C hx rfl X;obtain⟨r,rest,j1,j2,j3⟩:=vd (P:=P) (w:=w) (ty:=ty) (m:=m) (c:=m) (base:=W) (os:=os) ht hu hs hb a6 a5 N h4 q4 aeu k4 k5;obtain⟨E1,a1,a2,a3⟩:=fresh l os cs m r rest q3 O X M j1 j2 L C;exact⟨E1,_,_,j3,a1,a2,a3⟩;simp only[if_neg ai]at h;have c0:c1/\m=c'/\l.length=m*sz/\(m+n)*bl<=140737488355328/\m+n<=140737488355328:=by split at h<;>simp only[abz,abI]at h<;>obtain⟨rfl,_⟩:=h<;>exact hc
 obtain⟨Y,k2,X,k4,k5⟩:=c0;subst k2;obtain⟨N,M,J,Z,a7⟩:=aZ (P:=P) B hy F Y;have a0:(m+n)*sz=m*sz+n*sz:=acJ _ _ _;rcases acP n with G|G;subst G;have S:new=[]:=by simpa using M
 subst S;have:J=[]:=by have:=Z.length;simpa using this
 subst this;have g:(Builtin.append_ #[t,u] ty #[.slice W m m,v]).run P w=.ok (.slice W m m) w:=by rw[j6 (ty:=ty) ht hu hs N a7 aeu];cases W<;>simp[storeCells]
 split at h<;>simp only[abz,abI]at h<;>obtain⟨rfl,rfl,rfl⟩:=h;obtain⟨K,U⟩:=B.addtok (n:=m+0) (sz:=sz) (lc:=none) Kx;refine⟨_,_,_,g,K,?_,U⟩;simp only[VR,AV.frzL,ab1,ac1];refine⟨W,m,rfl,abA _,X,g3.imp id λ⟨b,o,q1,q2⟩=>⟨b,o,q1,VRC.mono K _ _ _ q2⟩,⟨m+0,sz,none⟩,aev,aev,λ_=>⟨rfl,λ_=>rfl,aev⟩⟩;refine .same B g ?_;simp only[VR,AV.frzL,ab1,ac1];exact⟨W,m,rfl,abA _,aev,g3⟩;obtain⟨_,_,cs,O,h4⟩:=aZ (P:=P) C hy F Y;obtain⟨_,_,os,q3,q4⟩:=aZ (P:=P) (sz:=sz) (c:=l.length=m*sz) (l:=l) (n:=m) C hx rfl X;obtain⟨r,rest,j1,j2,j3⟩:=vd (P:=P) (w:=w) (ty:=ty) (m:=m) (c:=m) (base:=W) (os:=os) ht hu hs hb a6 a5 N h4 q4 aeu k4 k5;obtain⟨E2,b1,b2,b3,b5,b4⟩:=grown l os cs m r rest q3 O X M j1 j2;split at h<;>simp only[abz,abI]at h<;>obtain⟨rfl,rfl,rfl⟩:=h;obtain⟨K,U⟩:=b2.addtok (n:=m+n) (sz:=sz) (b4 L.length aev);refine⟨_,_,_,j3,b1.trans K,?_,U⟩;simp only[VR];exact⟨_,r,rfl,j1,by simp only[abP,a4];omega,.inr ⟨_,0,rfl,VRC.mono K _ _ _ b3⟩,⟨m+n,sz,some ⟨w.heap.size,0,r*sz⟩⟩,aev,aev,λ_=>⟨rfl,aev,λk I=>by cases I;exact⟨rfl,abA _⟩⟩⟩;refine⟨E2,_,_,j3,b1,?_,b2⟩;simp only[VR];exact⟨_,r,rfl,j1,aev,.inr ⟨_,0,rfl,b3⟩⟩;rename_i l m i s;split at h;rename_i Q s' T;simp only[abz,abI]at h;obtain⟨rfl,rfl,rfl⟩:=h;obtain⟨Y,R,rfl,rfl,rfl,k4,k5⟩:=hc;obtain⟨cq,X⟩:=hx.gsl_sl;have D:=hx;simp only[VR]at D;obtain⟨W,H,rfl,g1,_,g3,tk,g4,g5,g6⟩:=D;obtain⟨c5,e1,e2,e3,e4⟩:=B.blk i _ T;rw[g4]at e1;cases e1;obtain⟨g7,g8,g9⟩:=g6 e2.symm;obtain⟨N,M,J,Z,a7⟩:=aZ (P:=P) B hy F Y;have a0:(Q+n)*s'=Q*s'+n*s':=acJ _ _ _;rcases acP n with G|G;subst G;have S:new=[]:=by simpa using M
 subst S;have:J=[]:=by have:=Z.length;simpa using this
 subst this;have g:(Builtin.append_ #[t,u] ty #[.slice W Q H,v]).run P w=.ok (.slice W Q H) w:=by rw[j6 (ty:=ty) ht hu hs N a7 aeu];cases W<;>simp[storeCells]
 refine .same ?_ g ?_;have:L.set i (.spare (Q+0) s')=L:=by apply acz;intro j;rw[ace];split;rename_i e;subst e;rw[T];have:=(aby.1 T).1;simp[this];rfl
 rw[this];exact B;simpa[AV.frzL]using hx;by_cases q:Q+n<=H;have bs:∃k,tk.loc=some k:=by rcases hq:tk.loc with _|k;have:=g8 hq;omega;exact⟨k,rfl⟩
 obtain⟨k,I⟩:=bs;obtain⟨rfl,ck⟩:=g9 k I;obtain⟨b_,cf,cn,b1,b2,b3⟩:=e4 k I;have ad:=Z.length;have ct:(Q+n)*s'<=H*s':=acO _ q;obtain⟨w',V,K,U,r3,r4,r5,r6,r7,r8,r9⟩:=je (P:=P) (b:=k.blk) (ty:=cf) (fr:=cn) J w b_ (0+Q*s') 0 b1 (λv hv=>by obtain⟨j,A⟩:=ac9.1 hv;have al:j<new.length:=(by have:=(aby.1 A).1;omega);obtain⟨y,h7,h8⟩:=Z.get (ab0 al);rw[A]at h7;cases h7;exact h8.one (abL.1 R _ (acN al))) aeu (λo h7 h8=>b3 o aeu aeu)
 have g:(Builtin.append_ #[t,u] ty #[.slice (some ⟨k.blk,0,none⟩) Q H,v]).run P w=.ok (.slice (some ⟨k.blk,0,none⟩) (Q+n) H) w':=by rw[j6 (ty:=ty) ht hu hs N a7 q];simp only[Addr.add_mk,K,abG]
 obtain⟨E',q1,q2,q3,q4⟩:=B.tokwrite (w':=w') T g4 I (n:=Q+n) aeu b1 U r3 r4 r5 r6 r7 r8 (λo ho=>by rw[r9,if_neg aeu]);refine⟨E',_,_,g,q1,?_,q2⟩;simp only[VR];refine⟨_,H,rfl,q,by simp only[abP,a4];omega,.inr ⟨k.blk,0,rfl,VRC.of_get λj a ha=>?_⟩,_,q3,abA _,λ_=>⟨rfl,aev,λk' bn=>by cases bn;exact⟨rfl,ck⟩⟩⟩;rw[ac0]at ha;split at ha;rename_i A;rcases g3 with⟨_,_,e⟩|⟨b,o,e,g3⟩;subst e;simp at A;cases e;obtain⟨y,f1,f2⟩:=(VRC.mono q1 _ _ _ g3).get ha;exact⟨y,f1,f2⟩;rename_i A;obtain⟨y,f1,f2⟩:=(VRL.frz _ _ Z).get ha;have cb:=(aby.1 ha).1;refine⟨y,?_,VR.mono q1 _ _ f2⟩;rw[q4 _ aeu aeu,r9,if_pos aeu,<- f1];congr 1;omega;obtain⟨_,_,cs,O,h4⟩:=aZ (P:=P) C hy F Y;obtain⟨_,_,os,q3,q4⟩:=aZ (P:=P) (sz:=s') (c:=l.length=Q*s') (l:=l) (n:=Q) C cq rfl X;obtain⟨r,rest,j1,j2,j3⟩:=vd (P:=P) (w:=w) (ty:=ty) (m:=Q) (c:=H) (base:=W) (os:=os) ht hu hs hb a6 a5 N h4 q4 aeu k4 k5;obtain⟨E2,b1,b2,b3,b5,b4⟩:=grown l os cs Q r rest q3 O X M j1 j2;obtain⟨K,U⟩:=b2.settok (n:=Q+n) (sz:=s') ⟨_,_,T⟩ (λt2 a8=>by rw[b5,g4]at a8;cases a8;omega) (b4 i (keep T))
 refine⟨_,_,_,j3,b1.trans K,?_,U⟩;simp only[VR];exact⟨_,r,rfl,j1,by simp only[abP,a4];omega,.inr ⟨_,0,rfl,VRC.mono K _ _ _ b3⟩,⟨Q+n,s',some ⟨w.heap.size,0,r*s'⟩⟩,aev,aev,λ_=>⟨rfl,aev,λk I=>by cases I;exact⟨rfl,abA _⟩⟩⟩;cases h;rename_i i off m cap s;split at h;rename_i l T;split at h;rename_i c3;subst c3;by_cases ab:own=4;rw[if_pos ab]at h;rcases cap with _|cp;cases h;simp only[abz,abI]at h;obtain⟨rfl,rfl,rfl⟩:=h;obtain⟨Y,R,k2,X⟩:=hc;have D:=hx;simp only[VR]at D;obtain⟨cl,H,d,g0,rfl,g1,g2,g3,g4⟩:=D;have bx:=g3 cp rfl;subst bx;obtain⟨N,M,cs,O,h4⟩:=aZ (P:=P) B hy F Y;have a0:(m+n)*s=m*s+n*s:=acJ _ _ _;have ad:=O.length;obtain⟨w',K,U⟩:∃w',(storeCells ((⟨cl.blk,d,none⟩:Addr).add (m*s)) cs).run P w=.ok () w'/\Rel w0 S0 E (L.set i (.cells (bO l (off+m*s) new))) w':=by
  by_cases bo:H=0;have G:n=0:=aeu;subst G;have S:new=[]:=acm.1 (by rw[M];simp);subst S;have ap:cs=[]:=(by simpa using ad);subst ap;refine⟨w,by simp[storeCells],?_⟩;have e1:bO l (off+m*s) []=l:=(by simp[bO]);rw[e1];have e2:L.set i (.cells l)=L:=by apply acz;intro j;rw[ace];split;rename_i e;subst e;rw[T];have:=(aby.1 T).1;simp[this];rfl
  rw[e2];exact B;have hd:=g1 bo;subst hd;rw[Addr.add_mk,acD];exact HJ (P:=P) (off:=off+m*s) B T g0 O (λx hx=>abL.1 R x hx) (by rw[M];omega)
 have g:(Builtin.append_ #[t,u] ty #[.slice (some ⟨cl.blk,d,none⟩) m H,v]).run P w=.ok (.slice (some ⟨cl.blk,d,none⟩) (m+n) H) w':=by rw[j6 (ty:=ty) ht hu hs N h4 X];simp only[K,abG]
 refine⟨E,_,w',g,.refl E,?_,U⟩;simp only[VR];exact⟨cl,H,d,g0,rfl,g1,X,g3,g4⟩;rw[if_neg ab]at h;simp only[abz,abI,Of]at h;obtain⟨rfl,rfl,rfl⟩:=h;obtain⟨Y,R,k2,X,k4⟩:=hc;have D:=hx;simp only[VR]at D;obtain⟨cl,H,d,g0,rfl,g1,g2,g3,g4⟩:=D;obtain⟨N,M,cs,O,h4⟩:=aZ (P:=P) B hy F Y;by_cases q:m+n<=H;have a_:((l.drop off).take (m*s)).length=m*s:=by simp;omega
 obtain⟨c6,J,bb,fr,b1,b2,b3,b4,b5,b6⟩:=B.blk i _ T;rw[g0]at b1;cases b1;have a9:=B.own i _ cl T rfl g0;have ad:=O.length;have a0:(m+n)*s=m*s+n*s:=acJ _ _ _;have ct:(m+n)*s<=H*s:=acO _ q;have hd:(some (⟨cl.blk,d,none⟩:Addr)).map (·.add (m*s))=some ⟨cl.blk,d+m*s,none⟩:=by simp[Addr.add_mk]
 obtain⟨w',V,K,U,r3,r4,r5,r6,r7,r8,r9⟩:∃w' V,(storeCells ((⟨cl.blk,d,none⟩:Addr).add (m*s)) cs).run P w=.ok () w'/\w'.heap.size=w.heap.size/\(∀k,k≠cl.blk->w'.heap[k]?=w.heap[k]?)/\w'.os=w.os/\w'.tape=w.tape/\w'.output=w.output /\
   w'.heap[cl.blk]?=some (.cells V bb fr)/\V.size=J.size/\∀k,V[k]?=if cl.off+off+m*s<=k/\k<cl.off+off+m*s+cs.length then cs[k-(cl.off+off+m*s)]? else J[k]?:=by
  by_cases bo:H=0
  .have ap:cs=[]:=by
    have h0 : n * s = 0 := by have : n = 0 := by omega
                              rw[this];simp
    rw[M,h0]at ad;simpa using ad
   subst ap;exact⟨w,J,by simp[storeCells],rfl,λ_ _=>rfl,rfl,rfl,rfl,b2,rfl,λk=>by rw[if_neg aev]⟩
  .have hd:=g1 bo;subst hd;rw[Addr.add_mk];have:=je (P:=P) (b:=cl.blk) (ty:=bb) (fr:=fr) cs w J (cl.off+off+m*s) 0 b2 (λv hv=>by obtain⟨j,A⟩:=ac9.1 hv;have al:j<new.length:=(by have:=(aby.1 A).1;omega);obtain⟨y,h7,h8⟩:=O.get (ab0 al);rw[A]at h7;cases h7;exact h8.one (abL.1 R _ (acN al))) aeu (λk h7 h8=>b6 k aeu aeu)
   simpa using this
 have g:(Builtin.append_ #[t,u] ty #[.slice (some ⟨cl.blk,d,none⟩) m H,v]).run P w=.ok (.slice (some ⟨cl.blk,d,none⟩) (m+n) H) w':=by rw[j6 (ty:=ty) ht hu hs N h4 q];simp only[K,abG]
 have I:=B.turn (w':=w') (k':=.dead) T rfl g0 U r3 r4 r5 r6 (by simp[bf]) aev;have b0:=I.add (.cells ((l.drop off).take (m*s)++new)) ⟨cl.blk,cl.off+off,cl.size⟩ a9.1 a9.2 (λj k' d' A b' ci=>by
  rw[ace]at A;split at A;split at A;cases A;simp[Blk.live]at b';cases A;rename_i bd;intro e;exact bd (B.inj _ _ _ _ _ _ T rfl A b' g0 ci e.symm)) rfl (λj n2 s2 t2 d A a8 c2=>B.tkloc j n2 s2 t2 d i _ cl (eR aev A) a8 c2 T rfl g0) (by
  refine⟨⟨cl.blk,cl.off+off,cl.size⟩,V,bb,fr,aev,r7,by simpa using r8.trans b3,by simp only[abP,a_];omega,λj a' ha=>?_,λo h5 h6=>b6 o (by simp at h5;omega) h6⟩;have an:∀x y,VR E x y->VR {E with loc:=λi'=>if i'=(L.set i .dead).length then some ⟨cl.blk,cl.off+off,cl.size⟩else E.loc i'} x y:=λx y cg=>VR.mono (Env.le_loc _ (I.fresh _ (abA _))) _ _ cg
  show ∃v,V[cl.off+off+j]?=some v/\_;rw[r9];rw[ac0]at ha;rw[a_]at ha;by_cases A:j<m*s;rw[if_pos A,acf A,aci]at ha;rw[if_neg aeu];obtain⟨x,e1,e2⟩:=b5 _ _ ha;exact⟨x,by rw[<- e1];congr 1;omega,an _ _ e2⟩;rw[if_neg A]at ha;have cb:=(aby.1 ha).1;rw[if_pos aeu];obtain⟨x,e1,e2⟩:=O.get ha;exact⟨x,by rw[<- e1];congr 1;omega,an _ _ e2⟩)
 refine⟨_,_,w',g,b0.1,?_,by simpa using b0.2⟩;simp only[VR];refine⟨⟨cl.blk,cl.off+off,cl.size⟩,H,d,aev,rfl,λbd=>by simpa using g1 bd,q,aev,?_⟩;simpa using g4;obtain⟨_,_,cs,O,h4⟩:=aZ (P:=P) C hy F Y;obtain⟨_,q2,os,q3,q4⟩:=aZ (P:=P) (sz:=s) (c:=off+m*s<=l.length) (l:=(l.drop off).take (m*s)) (n:=m) C hx (by simp only[elems,T]) k2;obtain⟨r,rest,j1,j2,j3⟩:=vd (P:=P) (w:=w) (ty:=ty) (m:=m) (c:=H) (base:=some ⟨cl.blk,d,none⟩) (os:=os) ht hu hs hb a6 a5 N h4 q4 aeu X k4;have I:Rel w0 S0 E (L.set i .dead) {w with drawn:=w.drawn+1}:=C.kill aev λj k I=>by rw[ace]at I;split at I;split at I;cases I;exact .inl rfl;cases I;exact .inr I
 obtain⟨E1,a1,a2,a3⟩:=fresh _ os cs m r rest q3 O q2 M j1 j2 (L.set i .dead) I;exact⟨E1,_,_,j3,a1,by simpa using a2,a3⟩;cases h;cases h;cases h
theorem U1{t u e ty:TypeId}{sz f i off m cp:Nat}{z l:List AV}{p v:Value}{j q:IntKind}{k:Int}(hR:Rel w0 S0 E L w)(ht:P.underlying t=some (.slice e))(hu:P.underlying u=some (.int j))(hs:bG P e=some sz)(S:N9 P e=some f)(hz:zOf P e=some z)(H:z.length=sz)(U:VR E (.lsl i off m (some cp) sz) p)(V:VR E (.int q k) v)(hL:L[i]?=some (.cells l))(X:0<=k/\k<=1099511627776/\cp<m+k.toNat/\off+m*sz<=l.length/\(m+k.toNat)*f<=140737488355328/\m+k.toNat<=140737488355328):
  bK P w0 S0 E (L++[.cells ((l.drop off).take (m*sz)++cX z k.toNat)]) (.lsl L.length 0 (m+k.toNat) none sz) w (Builtin.append_ #[t,u] ty #[p,v]):=by
 obtain⟨c1,c2,K,c4,c5,c6⟩:=X;have y:Rel w0 S0 E L {w with drawn:=w.drawn+1}:=hR.draw _;obtain⟨a,I,C,_⟩:=HE (E:=E) hz;have h:a.cells.size=sz:=by have:=C.length;simpa[H]using this
 simp only[VR]at V;subst V;have A:=U;simp only[VR]at A;obtain⟨cl,r,d,g0,rfl,g1,g2,g3,g4⟩:=A;have:=g3 cp rfl;subst this;obtain⟨_,q2,os,Q,q4⟩:=aZ (P:=P) (sz:=sz) (c:=off+m*sz<=l.length) (l:=(l.drop off).take (m*sz)) (n:=m) y U (by simp only[elems,hL]) c4;obtain⟨n,O⟩:∃n,n=k.toNat:=⟨_,rfl⟩;rw[<- O]at K c5 c6⊢;obtain⟨b,s⟩:∃b,b=(Question.appendCap (m+n) r e).cut (w.tape w.drawn (.appendCap (m+n) r e)):=⟨_,rfl⟩;have J:m+n<=b:=by rw[s];simp[Question.cut]
 obtain⟨g,hi,G⟩:∃i,P.info? e=some i/\i.bytes=f:=by unfold N9 at S;simpa using S
 have x:∀W,(typeInfo e).run P W=.ok g W:=λW=>by simp[typeInfo,hi]
 have R:=growslice_fits (need:=m+n) (old:=r) (bytes:=f) K c5;have F:IntKind.i64.max=9223372036854775807:=by decide
 have hw:IntKind.i64.wrap k=k:=by simp only[IntKind.wrap,IntKind.bits,IntKind.signed];simp;omega
 have ab:(n:Int)=k:=aeu;have N:k*(g.bytes:Int)<=2^48:=by grind
 have n0:¬k<0:=aeu;have n3:¬k*(g.bytes:Int)>2^48:=aeu;have n1:¬(((m+n:Nat):Int)>IntKind.i64.max/\True):=by rw[F];omega
 have n2:¬(Builtin.nextslicecap (m+n) r*g.bytes>2^48):=by rw[G];omega
 have o:∀W,(if n*sz=0 then(pure #[]:Sem (Array Value))else do pure (Builtin.zeroCells (<- zeroValue e).cells n)).run P W=.ok (Builtin.zeroCells a.cells n) W:=λW=>by
  by_cases M:n*sz=0;rw[if_pos M];have:Builtin.zeroCells a.cells n=#[]:=by apply Array.eq_empty_of_size_eq_zero;rw[ke,h,M]
  simp_all;simp_all
 have D:(Builtin.append_ #[t,u] ty #[.slice (some ⟨cl.blk,d,none⟩) m r,.int q k]).run P w =
   .ok (.slice (some ⟨w.heap.size,0,none⟩) (m+n) b) {w with heap:=w.heap.push (.cells ⟨(os++(Builtin.zeroCells a.cells n).toList)++(Builtin.zeroCells a.cells (b-(m+n))).toList⟩ e),drawn:=w.drawn+1}:=by
  unfold Builtin.append_;simp only[ads,acs,adK,abF,run_underlying ht,run_underlying hu,abG,ab8,bh hs,if_true,asInt,asIntOf,hw,if_neg n0,x,if_neg n3,<- O];simp only[if_neg (show ¬(m+n<=r)by omega),adL,abT,if_false,true_or];simp only[if_neg n1,ab8,abF,x,abG,if_neg n2,run_choose,Question.forced,abT,if_false,<- s,run_askRoom,q4,o,I,newRow,run_newObj];have T:((⟨os⟩:Array Value)++Builtin.zeroCells a.cells n++Builtin.zeroCells a.cells (b-(m+n)))=⟨(os++(Builtin.zeroCells a.cells n).toList)++(Builtin.zeroCells a.cells (b-(m+n))).toList⟩:=by simp
  grind
 have B:VRL E (cX z n) (Builtin.zeroCells a.cells n).toList:=by have:=HR C n;simpa[Builtin.zeroCells]using this
 obtain⟨E',Z,Y,r3⟩:=rN y (Q.append B) (Builtin.zeroCells a.cells (b-(m+n))).toList e (0,0) aev;refine⟨E',_,_,D,Z,?_,r3⟩;simp only[VR];refine⟨_,b,0,Y,rfl,aev,J,aev,?_⟩;have h1:=Q.length;have h2:((Builtin.zeroCells a.cells n).toList).length=n*sz:=by simp[ke,h]
 have h5:((Builtin.zeroCells a.cells (b-(m+n))).toList).length=(b-(m+n))*sz:=by simp[ke,h]
 have:(m+n)*sz+(b-(m+n))*sz=b*sz:=by rw[<- acJ];congr 1;omega
 have h3:(m+n)*sz=m*sz+n*sz:=acJ _ _ _;simp only[abP,h2,h5];omega
end
section
variable {P:Program}{w0:World}{S0:SB}{E:Env}{L:List Blk}{w:World}{T:Tm}{a:Act}
def du(P:Program)(w0:World)(S0:SB)(E:Env)(L':List Blk)(av:AV)(w:World)(s:Sem Next):Prop :=
 ∃E' v w',(s.run P w=.ok (.value v) w'\/(s.run P w=.ok .skip w'/\v=undef))/\E.le E'/\VR E' av v/\Rel w0 S0 E' L' w'
theorem bK.done{L':List Blk}{av:AV}{s:Sem Value}(h:bK P w0 S0 E L' av w s):du P w0 S0 E L' av w (do pure (.value (<- s))):=by obtain⟨E',v,w',a,b⟩:=h;exact⟨E',v,w',.inl (by simp[a]),b⟩
theorem rU:∀{xs:List Operand}{c:List Opd}{l:List AV},mW xs=some c->iI T c=some l->TR E T a->VRL E l (xs.map a.eval)
 |[],c,l,h,hv,_=>by simp[mW]at h;subst h;simp[iI]at hv;subst hv;rfl
 | x::xs,c,l,h,hv,hT=>by
   simp only[mW,adW]at h;rcases h1:aY x with _|y
   .simp_all
   .rcases h2:xs.mapM aY with _|d
    .simp_all
    .simp[h1,h2]at h;subst h;simp only[iI]at hv;split at hv<;>simp at hv;rename_i b m e h4;subst hv;exact⟨_,_,rfl,ah h1 e hT,rU (by simpa[mW]using h2) h4 hT⟩
theorem LJ{sz:Nat}{x:AV}{v:Value}{c:Prop}{l:List AV}{n:Nat}(k:Nat)(F:k<=n)(B:Rel w0 S0 E L w)(g:VR E x v)(h:elems L sz x=some (c,l,n))(M:c):
  ∃cs,VRL E (l.take (k*sz)) cs/\cs.length=k*sz/\(Builtin.firstCells sz k v).run P w=.ok ⟨cs⟩ w:=by
 have Q:k*sz<=n*sz:=acO _ F;unfold elems at h;split at h;simp only[abz,abI]at h;obtain⟨rfl,rfl,rfl⟩:=h;simp only[VR]at g;subst g;have:k=0:=aeu;subst this;exact⟨[],by simp[VRL],aev,by simp[Builtin.firstCells]⟩;rename_i l m cap;simp only[abz,abI]at h;obtain⟨rfl,rfl,rfl⟩:=h;exact(HN (P:=P) B g M F).2;rename_i l m i s;simp only[abz,abI]at h;obtain⟨rfl,rfl,rfl⟩:=h;subst M;exact(HN (P:=P) B g.gsl_sl.1 g.gsl_sl.2 F).2;rename_i i off m cap s;split at h;rename_i p J;simp only[abz,abI]at h;obtain⟨rfl,rfl,rfl⟩:=h;simp only[VR]at g;obtain⟨q,R,d,z,rfl,H,S,h4,O⟩:=g;obtain⟨k',K,ty,fr,g1,C,g3,g4,G,N⟩:=B.blk i _ J;rw[z]at g1;cases g1;have e:(((p.drop off).take (m*sz)).take (k*sz)).length=k*sz:=by simp;omega
 rcases acP k with t|t;subst t;exact⟨[],by simp[VRL],aev,by simp[Builtin.firstCells,loadCells,loadCellsFrom]⟩;have hd:=H aeu;subst hd;obtain⟨cs,u,r⟩:=iG (P:=P) (w:=w) (b:=q.blk) (o:=q.off+off) (l:=((p.drop off).take (m*sz)).take (k*sz)) λj a f=>by have y:j<k*sz:=(by have:=(aby.1 f).1;omega);rw[acf y,acf aeu,aci]at f;obtain⟨x,A,D⟩:=G _ _ f;refine⟨x,?_,D⟩;rw[<- acD]at A;simp[World.cell?,C,A]
 exact⟨cs,u,by rw[u.length,e],by rw[e]at r;simpa[Builtin.firstCells]using r⟩;rename_i p J;simp only[abz,abI]at h;obtain⟨rfl,rfl,rfl⟩:=h;simp only[VR]at g;obtain⟨q,R,d,z,rfl,H,S,h4,O⟩:=g;obtain⟨k',K,ty,fr,g1,C,g3,g4,G,N⟩:=B.blk i _ J;rw[z]at g1;cases g1;have e:(((p.drop off).take (m*sz)).take (k*sz)).length=k*sz:=by simp;omega
 rcases acP k with t|t;subst t;exact⟨[],by simp[VRL],aev,by simp[Builtin.firstCells,loadCells,loadCellsFrom]⟩;have hd:=H aeu;subst hd;obtain⟨cs,u,r⟩:=iG (P:=P) (w:=w) (b:=q.blk) (o:=q.off+off) (l:=((p.drop off).take (m*sz)).take (k*sz)) λj a f=>by have y:j<k*sz:=(by have:=(aby.1 f).1;omega);rw[acf y,acf aeu,aci]at f;obtain⟨x,A,D⟩:=G _ _ f;refine⟨x,?_,D⟩;rw[<- acD]at A;simp[World.cell?,C,A]
 exact⟨cs,u,by rw[u.length,e],by rw[e]at r;simpa[Builtin.firstCells]using r⟩;cases h;split at h;rename_i s I;simp only[abz,abI]at h;obtain⟨rfl,rfl,rfl⟩:=h;simp only[VR]at g;subst g;subst I;refine⟨(s.map λb=>Value.int .u8 b.toNat).take k,?_,by simp;omega,?_⟩;refine VRL.of_get (by simp[u8s]) λi a f=>?_
 have y:i<k:=by have:=(aby.1 f).1;simp at this;omega
 simp only[Nat.mul_one]at f;rw[acf y]at f⊢;simp only[u8s,acy,abZ]at f⊢;obtain⟨b,z,rfl⟩:=f;exact⟨_,⟨b,z,rfl⟩,rfl⟩;simp only[Builtin.firstCells,ab8];simp;cases h;cases h
theorem Ph{t u e ty:TypeId}{sz n:Nat}{x y:AV}{p v:Value}{c:Prop}{new:List AV}(k:Rel w0 S0 E L w)(H:P.underlying t=some (.slice e))(G:bG P e=some sz)(j:VR E x p)(B:VR E y v)(b:elems L sz y=some (c,new,n))(r:c):
  (x=.nilsl->bK P w0 S0 E L (.int .i64 0) w (Builtin.copy_ #[t,u] ty #[p,v])) /\
  (∀ i off m cap l,x=.lsl i off m cap sz->L[i]?=some (.cells l)->off+m * sz<=l.length->(new.take (min n m * sz)).all AV.one=true ->
   bK P w0 S0 E (L.set i (.cells (bO l off (new.take (min n m*sz))))) (.int .i64 (min n m:Nat)) w (Builtin.copy_ #[t,u] ty #[p,v])):=by
 obtain⟨F,U,_,_,_⟩:=aZ (P:=P) k B b r;refine⟨λC=>?_,λi off m cap l C S R o=>?_⟩<;>subst C<;>simp only[VR]at j;subst j;obtain⟨f,_,_,N⟩:=LJ (P:=P) 0 (abJ _) k B b r;refine .same k (v:=.int .i64 0) ?_ (by simp[VR]);simp[Builtin.copy_,run_underlying H,F,bh G,N,goInt];obtain⟨cl,I,d,O,rfl,g1,T,g3,g4⟩:=j;obtain⟨f,q,h,Q⟩:=LJ (P:=P) (min n m) (Nat.min_le_left _ _) k B b r;have D:min n m*sz<=m*sz:=acO _ (Nat.min_le_right _ _);have A:min n m*sz<=n*sz:=acO _ (Nat.min_le_left _ _);have g:(new.take (min n m*sz)).length=min n m*sz:=by simp;omega
 have a:(Builtin.copy_ #[t,u] ty #[.slice (some ⟨cl.blk,d,none⟩) m I,v]).run P w=((storeCells ⟨cl.blk,d,none⟩ f).run P w).andThen λ_ w'=>.ok (.int .i64 (min n m:Nat)) w':=by unfold Builtin.copy_;simp only[ads,acs,adK,abF,run_underlying H,abG,bh G,F,show Nat.min n m=min n m from rfl,Q];rfl
 by_cases M:min n m*sz=0;have z:f=[]:=by rw[M]at h;simpa using h
 subst z;refine⟨E,.int .i64 (min n m:Nat),w,by rw[a];simp[storeCells],.refl E,by simp[VR],?_⟩;have:bO l off []=l:=by simp[bO]
 have:L.set i (.cells l)=L:=by
  apply acz
  grind
 simp[*];have s:I≠0:=by grind
 have hd:=g1 s;subst hd;obtain⟨w',K,J⟩:=HJ (P:=P) (off:=off) k S O q (λx j=>abL.1 o x j) (by rw[g];omega);exact⟨E,.int .i64 (min n m:Nat),w',by rw[a,K];rfl,.refl E,by simp[VR],J⟩
theorem OY{z:List AV}(h:∀a∈z,AV.one a=true):∀n,∀a∈cX z n,AV.one a=true
 |0,a,ha=>by simp[cX]at ha
 |n+1,a,ha=>by simp only[cX,abD]at ha;exact ha.elim (h a) (OY h n a)
theorem Nv{t e ty:TypeId}{sz:Nat}{z:List AV}{x:AV}{p:Value}(o:Rel w0 S0 E L w)(g:P.underlying t=some (.slice e))(D:bG P e=some sz)(y:zOf P e=some z)(f:z.length=sz)(b:VR E x p):
  (x=.nilsl->bK P w0 S0 E L (.tup []) w (Builtin.clear_ #[t] ty #[p])) /\
  (∀ i off m cap l,x=.lsl i off m cap sz->L[i]?=some (.cells l)->off+m * sz<=l.length ->
   bK P w0 S0 E (L.set i (.cells (bO l off (cX z m)))) (.tup []) w (Builtin.clear_ #[t] ty #[p])):=by
 obtain⟨u,c,j,h⟩:=HE (E:=E) y;refine⟨λn=>?_,λi off m cap l n B A=>?_⟩<;>subst n<;>simp only[VR]at b;subst b;exact .same o (v:=.tuple #[]) (by simp[Builtin.clear_,run_underlying g]) ⟨[],rfl,rfl⟩;obtain⟨cl,F,d,s,rfl,g1,C,g3,g4⟩:=b;rcases acP m with k|k;subst k;refine⟨E,.tuple #[],w,by simp[Builtin.clear_,run_underlying g],.refl E,⟨[],rfl,rfl⟩,?_⟩;have:bO l off (cX z 0)=l:=by simp[bO,cX]
 have:L.set i (.cells l)=L:=by
  apply acz
  grind
 simp[*];have hd:=g1 aeu;subst hd;have a:VRL E (cX z m) (Builtin.zeroCells u.cells m).toList:=by have:=HR j m;simpa[Builtin.zeroCells]using this
 obtain⟨w',r,q⟩:=HJ (P:=P) (off:=off) o B s a (OY h m) (by rw[kj,f];omega);refine⟨E,.tuple #[],w',?_,.refl E,⟨[],rfl,rfl⟩,q⟩;cases m with
 |zero=>omega
 | succ m =>
   unfold Builtin.clear_;simp only[ads,acs,abF,run_underlying g,abG,c,r,ab8]
end
open Go Go.MapKept
section
variable {P:Program}{w0:World}{S0:SB}{E:Env}{L:List Blk}{w:World}{T:Tm}{a:Act}
def EF(P:Program):Nat->List Field->List yl->Prop
 |_,[],[]=>True
 | i,f::fs,k::ks=>f.offset=i/\f.name ≠ "_" /\ Se P f.type=some k/\EF P (i+1) fs ks
 |_,_,_=>False
theorem QS:∀{b:List Field}{i:Nat}{a:List yl},QT P i b=some a->EF P i b a
 |[],i,a,h=>by simp only[QT,abz]at h;subst h;trivial
 | f::b,i,a,h=>by
   simp only[QT]at h;split at h
   .rename_i hc;split at h
    .rename_i k ks' h1 h2;simp only[abz]at h;subst h;exact⟨hc.1,hc.2,h1,QS h2⟩
    .cases h
   .cases h
theorem Kc{b:TypeId}{c:List yl}(h:fu P b=some (.st c)):∃a:Array Field,P.underlying b=some (.struct a)/\P.stoodInHeld b=false/\EF P 0 a.toList c:=by
 unfold fu at h;split at h<;>try simp only[abz,reduceCtorEq]at h
 rename_i a f;split at h;rename_i d;simp only[abZ,kZ.st.injEq]at h;obtain⟨e,g,rfl⟩:=h;exact⟨a,f,d,QS g⟩;cases h
theorem Kb{t:TypeId}{k:yl}(h:Se P t=some k):(k=.int/\∃q,P.underlying t=some (.int q))\/(k=.str/\P.underlying t=some .string)\/(k=.bool/\P.underlying t=some .bool):=by
 unfold Se at h
 grind
theorem R7{t:TypeId}{k:yl}(h:Se P t=some k){cs:Array Value}{i:Nat}{v:Value}(b:cs[i]?=some v)(w:World):(part t cs i).run P w=.ok v w:=by rcases Kb h with⟨_,q,a⟩|⟨_,a⟩|⟨_,a⟩<;>simp[part,isAgg,run_underlying a,b]
theorem O4:∀{b:List yl}{l:List AV},rP b l=true->b.length=l.length
 |[],[],_=>rfl
 |[],_::_,h=>by simp[rP]at h
 |_::_,[],h=>by simp[rP]at h
 |k::b,a::l,h=>by simp only[rP,abH]at h;simp[O4 h.2]
theorem abj{t:TypeId}{k:yl}(h:Se P t=some k){a b:AV}{u v:Value}{r:Bool}(j:ZT k a=true)(i:VR E a u)(g:VR E b v)(c:Nl a b=some r)(d:Nat)(w:World):(Op.equalIn (d+1) t u v).run P w=.ok r w:=by rcases Kb h with⟨rfl,q,f⟩|⟨rfl,f⟩|⟨rfl,f⟩<;>cases a<;>simp only[ZT,abT]at j<;>cases b<;>simp only[Nl,reduceCtorEq]at c<;>simp only[VR]at i g<;>subst i<;>subst g;split at c<;>simp only[abz,reduceCtorEq]at c;rename_i e;subst e;subst c;rw[run_equalIn_int w d t _ _ _ _ f];rfl;simp only[abz]at c;subst c;rw[run_equalIn_string w d t _ _ f,<- beq_toListBytes];rename_i a b;congr 1;by_cases e:a=b;subst e;simp[bytes_beq];simp only[e,decide_false];rcases h':(({data:={toList:=a}}:ByteArray) == {data:={toList:=b}})with _|_;rfl;have:=(bytes_beq _ _).1 h';simp_all;simp only[abz]at c;subst c;rw[run_equalIn_bool' w d t _ _ f];rfl
theorem Zm(d:Nat)(xs n:Array Value)(w:World):∀ (g:List Field) (e:List yl) (i:Nat) (l m:List AV) (h vs:List Value) (r:Bool),EF P i g e->rP e l=true->VRL E l h->VRL E m vs->(∀ j,h[j]?=xs[i+j]?)->(∀ j,vs[j]?=n[i+j]?)->zQ l m=some r->(Op.eqFields (d+1) xs n g).run P w=.ok r w
 | [],e,i,l,m,h,vs,r,hf,hp,hl,hm,hx,hy,hq=>by
   cases e with
   |cons k e=>simp[EF]at hf
   | nil =>
     cases l with
     |cons a l=>simp[rP]at hp
     | nil =>
       cases m with
       |cons b m=>simp[zQ]at hq
       |nil=>simp only[zQ,abz]at hq;subst hq;simp[Op.eqFields]
 | f::g,e,i,l,m,h,vs,r,hf,hp,hl,hm,hx,hy,hq=>by
   cases e with
   |nil=>simp[EF]at hf
   | cons k e =>
     cases l with
     |nil=>simp[rP]at hp
     | cons a l =>
       cases m with
       |nil=>simp[zQ]at hq
       | cons b m =>
         obtain⟨y,z,t,h4⟩:=hf;simp only[rP,abH]at hp;obtain⟨u,q,rfl,B,o⟩:=hl;obtain⟨v,p,rfl,x,s⟩:=hm;have A:xs[i]?=some u:=(by have:=hx 0;simpa using this.symm);have C:n[i]?=some v:=(by have:=hy 0;simpa using this.symm);simp only[zQ]at hq;simp only[Op.eqFields,ne_eq,z,not_false_eq_true,if_true,y,abF,R7 t A,R7 t C,abG];cases hk:Nl a b with
         |none=>rw[hk]at hq;cases hq
         | some c =>
           rw[hk]at hq;rw[abj t hp.1 B x hk d w];cases c with
           |false=>simp only[abz]at hq;subst hq;simp
           | true =>
             exact Zm d xs n w g e (i+1) l m q p r h4 hp.2 o s (λj=>by have:=hx (j+1);rw[show i+(j+1)=i+1+j by omega]at this;simpa using this) (λj=>by have:=hy (j+1);rw[show i+(j+1)=i+1+j by omega]at this;simpa using this) hq
theorem NJ{a:TypeId}{c:List yl}{b:Array Field}(i:P.underlying a=some (.struct b))(o:P.stoodInHeld a=false)(p:EF P 0 b.toList c){l:List AV}{q:AV}{u v:Value}{r:Bool}(k:rP c l=true)(n:VR E (.agg l) u)(s:VR E q v)(h:xr (.agg l) q=some r)(w:World):
  (Op.equal a u v).run P w=.ok r w:=by
 cases q<;>simp only[xr,reduceCtorEq]at h;rename_i m;obtain⟨f,rfl,d⟩:=n;obtain⟨vs,rfl,g⟩:=s;have e:P.fieldsOf a=b:=by simp[Program.fieldsOf,i]
 have:=run_equalIn_struct (P:=P) w 9999 a ⟨f⟩ ⟨vs⟩ (by rw[e];exact i) o;rw[e,Zm 9998 ⟨f⟩ ⟨vs⟩ w b.toList c 0 l m f vs r p k d g (λj=>aev) (λj=>aev) h]at this;exact this
theorem WN{t:TypeId}(i:fu P t=some (.st [.str,.str]))(k:P.eqGuardType P.depth t=false){b c a c':List UInt8}{u v:Value}(d:Bool){op:BinOp}(f:op=if d then .neq else .eql)(m:Rel w0 S0 E L w)(n:VR E (.agg [.str b,.str c]) u)(o:VR E (.agg [.str a,.str c']) v)(x y:Operand):
  bK P w0 S0 E L (.bool (if d then !decide (b=a/\c=c')else decide (b=a/\c=c'))) w (do eqGuard op t x y u v;binOp op t u v):=by
 obtain⟨B,r,s,z⟩:=Kc i;have p:xr (.agg [.str b,.str c]) (.agg [.str a,.str c'])=some (decide (b=a/\c=c')):=by
  simp only[xr,zQ,Nl];by_cases A:b=a
  grind
  simp[*]
 have q:=NJ r s z (l:=[.str b,.str c]) rfl n o p w;have h:=n;have g:=o;obtain⟨j,rfl,_⟩:=h;obtain⟨vs,rfl,_⟩:=g;have e:(Op.equalIn 10000 t (.agg ⟨j⟩) (.agg ⟨vs⟩)).run P w=.ok (decide (b=a/\c=c')) w:=q;cases d with
 | true =>
   subst f;refine .same (v:=.bool (!decide (b=a/\c=c'))) m ?_ (by simp only[if_true,VR]);simp only[abF,run_eqGuard_agg w .neq t x y ⟨j⟩ ⟨vs⟩ k,abG,run_neq_struct,e,if_true]
 | false =>
   subst f;refine .same (v:=.bool (decide (b=a/\c=c'))) m ?_ (by simp only[abT,if_false,VR]);simp only[abT,if_false,abF,run_eqGuard_agg w .eql t x y ⟨j⟩ ⟨vs⟩ k,abG,run_eql_struct,e]
end
section
variable {P:Program}{w0:World}{S0:SB}{E:Env}{L:List Blk}{w:World}{T:Tm}{a:Act}
theorem du.same{av:AV}{v:Value}{s:Sem Next}(a:Rel w0 S0 E L w)(h:s.run P w=.ok (.value v) w)(b:VR E av v):du P w0 S0 E L av w s:=⟨E,v,w,.inl h,.refl E,b,a⟩
theorem cW{x:Option Operand}{y:Option Opd}{r:Option Int}(b:TR E T a)(h:uV x=some y)(c:bnd T y=some r):JV a x r:=YN b h c
theorem VP{t:TypeId}{x:Operand}{g:Bool}{s:Nat}{y:Opd}{c:Prop}{av:AV}{L':List Blk}(d:Rel w0 S0 E L w)(i:TR E T a)(e:rS P t=some g)(j:bG P t=some s)(k:aY x=some y)(b:ak T L (.load g s y)=some (c,av,L'))(f:c):du P w0 S0 E L' av w (do pure (.value (<- Instr.loadAt t (a.eval x)))):=by
 simp only[ak]at b;rcases h1:evD T y with _|u;simp_all;simp only[h1,ac2]at b;rcases h2:row L u with _|⟨l,off⟩;simp_all;simp only[h2]at b;have h:=j5 d k h1 i;cases g;obtain⟨rfl,rfl,rfl⟩:=b;exact(SG d e h2 h f).done;obtain⟨rfl,rfl,rfl⟩:=b;exact(SF d e j h2 h f).done
theorem Uk{t:TypeId}{p x:Operand}{s:Nat}{r y:Opd}{c:Prop}{av:AV}{L':List Blk}(n:Rel w0 S0 E L w)(e:TR E T a)(q:bG P t=some s)(k:aY p=some r)(v:aY x=some y)(b:ak T L (.store s r y)=some (c,av,L'))(m:c):du P w0 S0 E L' av w (do Instr.storeAt t (a.eval p) (a.eval x);pure .skip):=by
 simp only[ak]at b;split at b<;>try cases b
 rename_i i off vals o f;split at b<;>try cases b
 rename_i l j;split at b<;>try cases b
 rename_i d;rcases h3:evX T y with _|u;simp_all;simp only[h3,ac2]at f;obtain⟨w',h,g⟩:=Su (P:=P) n q rfl (ah k o e) j (p9 f (ah v h3 e)) d.2 d.1 m;exact⟨E,undef,w',.inr ⟨by simp[h],rfl⟩,.refl E,by simp[VR],g⟩;rename_i l j;split at b<;>try cases b
 rename_i d;rcases h3:evX T y with _|u;simp_all;simp only[h3,ac2]at f;obtain⟨w',h,g⟩:=Ra (P:=P) n q rfl (ah k o e) j (p9 f (ah v h3 e)) d.2 d.1 m;exact⟨E,undef,w',.inr ⟨by simp[h],rfl⟩,.refl E,by simp[VR],g⟩
theorem X4{t e:TypeId}{x:Operand}{J K D:Option Operand}{sz:Nat}{N:Opd}{C v o:Option Opd}{c:Prop}{av:AV}{L':List Blk}(q:Rel w0 S0 E L w)(d:TR E T a)(hd:P.underlying t=some (.slice e))(s:bG P e=some sz)(p:aY x=some N)(i:uV J=some C)(j:uV K=some v)(n:uV D=some o)(g:ak T L (.slV sz N C v o)=some (c,av,L'))(b:c):du P w0 S0 E L' av w (do pure (.value (<- Instr.sliceAt t (a.eval x) (J.map a.eval) (K.map a.eval) (D.map a.eval)))):=by
 simp only[ak]at g;have f:∀{r},bnd T o=some r->r=none->D=none:=λ{r} O hr=>by rcases cW d n O with⟨h,_⟩|⟨_,_,_,_,h,_⟩;omega;simp_all
 split at g;rename_i l k m h4;simp only[abz,abI]at g;obtain⟨rfl,rfl,rfl⟩:=g;have:=f h4 rfl;subst this;exact(PN q hd s (ah p l d) (cW d i k) (cW d j m) b.1 b.2).done;rename_i l k m h4;simp only[abz,abI]at g;obtain⟨rfl,rfl,rfl⟩:=g;have:=f h4 rfl;subst this;exact((Nr q hd s (ah p l d) (cW d i k) (cW d j m) b.1 b.2.1).1 _ _ rfl b.2.2).done;rename_i l k m h4;simp only[abz,abI]at g;obtain⟨rfl,rfl,rfl⟩:=g;rcases cW d j m with⟨_,h⟩|⟨o1,G,H,rfl,y,z⟩;cases h;rcases cW d n h4 with⟨_,h⟩|⟨I,M,F,rfl,B,A⟩;cases h;cases y;cases B;exact(Pg q hd s (ah p l d).gsl_sl.1 (cW d i k) z A b.1 b.2.1 b.2.2.1 b.2.2.2.1 b.2.2.2.2).done;rename_i l k m h4;simp only[abz,abI]at g;obtain⟨rfl,rfl,rfl⟩:=g;rcases cW d j m with⟨_,h⟩|⟨o1,G,H,rfl,y,z⟩;cases h;rcases cW d n h4 with⟨_,h⟩|⟨I,M,F,rfl,B,A⟩;cases h;cases y;cases B;exact(Pg q hd s (ah p l d) (cW d i k) z A b.1 b.2.1 b.2.2.1 b.2.2.2.1 b.2.2.2.2).done;rename_i l k m h4;simp only[abz,abI]at g;obtain⟨rfl,rfl,rfl⟩:=g;have:=f h4 rfl;subst this;obtain⟨rfl,b⟩:=b;exact((Nr q hd s (ah p l d).gsl_sl.1 (cW d i k) (cW d j m) b.1 b.2.1).1 _ _ rfl b.2.2).done;rename_i l k m h4;split at g<;>try cases g
 rename_i u;subst u;have:=f h4 rfl;subst this;exact((Nr q hd s (ah p l d) (cW d i k) (cW d j m) b.1 b.2.1).2 _ _ _ rfl b.2.2).done;rename_i l k m h4;split at g<;>try cases g
 rename_i u;subst u;rcases cW d j m with⟨_,h⟩|⟨o1,G,H,rfl,y,z⟩;cases h;rcases cW d n h4 with⟨_,h⟩|⟨I,M,F,rfl,B,A⟩;cases h;cases y;cases B;exact(Sw q hd s (ah p l d) (cW d i k) z A b.1 b.2.1 b.2.2.1 b.2.2.2).done;simp_all
theorem X5{t e:TypeId}{x:Operand}{q s:Option Operand}{n sz:Nat}{v:Opd}{h i:Option Opd}{c:Prop}{av:AV}{L':List Blk}(k:Rel w0 S0 E L w)(d:TR E T a)(hd:P.underlying t=some (.array n e))(r:bG P e=some sz)(u:aY x=some v)(j:uV q=some h)(g:uV s=some i)(f:ak T L (.slA n sz v h i)=some (c,av,L'))(b:c):du P w0 S0 E L' av w (do pure (.value (<- Instr.sliceAt t (a.eval x) (q.map a.eval) (s.map a.eval) none))):=by
 simp only[ak]at f;split at f;rename_i o m p;simp only[abz,abI]at f;obtain⟨rfl,rfl,rfl⟩:=f;exact((Q2 k hd r (j5 k u o d) (cW d j m) (cW d g p) b.1 b.2.1 b.2.2.1).1 _ _ rfl).done;rename_i o m p;split at f<;>try cases f
 rename_i l y;exact((Q2 k hd r (j5 k u o d) (cW d j m) (cW d g p) b.1 b.2.1 b.2.2.1).2 _ _ _ rfl y b.2.2.2).done;simp_all
theorem Ul{t e:TypeId}{x i:Operand}{sz:Nat}{n m:Opd}{c:Prop}{av:AV}{L':List Blk}(g:Rel w0 S0 E L w)(f:TR E T a)(hd:P.underlying t=some (.slice e))(k:bG P e=some sz)(l:aY x=some n)(p:aY i=some m)(j:ak T L (.iaddr sz n m)=some (c,av,L'))(b:c):du P w0 S0 E L' av w (do pure (.value (<- Instr.indexAt t (a.eval x) (a.eval i)))):=by
 simp only[ak]at j;split at j<;>try cases j
 all_goals
  rename_i h o;have d:=ah p o f;simp only[VR]at d;rw[d]
 exact((Hh g hd k (ah l h f) b.1).1 _ _ _ rfl b.2).done;exact((Hh g hd k (ah l h f).gsl_sl.1 b.1).1 _ _ _ rfl b.2).done;exact((Hh g hd k (ah l h f) b.1).2 _ _ _ _ _ rfl b.2).done
theorem RW{t e:TypeId}{x i:Operand}{n sz:Nat}{o j:Opd}{c:Prop}{av:AV}{L':List Blk}(f:Rel w0 S0 E L w)(g:TR E T a)(hd:P.underlying t=some (.array n e))(l:bG P e=some sz)(m:aY x=some o)(q:aY i=some j)(h:ak T L (.iaddrA n sz o j)=some (c,av,L'))(d:c):du P w0 S0 E L' av w (do pure (.value (<- Instr.indexAt t (a.eval x) (a.eval i)))):=by
 simp only[ak]at h;split at h<;>try cases h
 all_goals
  rename_i k p;have b:=ah q p g;simp only[VR]at b;rw[b]
 exact((LI f hd l (j5 f m k g) d.1 d.2).1 _ _ rfl).done;exact((LI f hd l (j5 f m k g) d.1 d.2).2 _ _ rfl).done
theorem Un{t:TypeId}{m:Array Field}{f:Nat}{e:Field}{x:Operand}{l:Opd}{c:Prop}{av:AV}{L':List Blk}(b:Rel w0 S0 E L w)(g:TR E T a)(hd:P.underlying t=some (.struct m))(h:m.toList[f]?=some e)(i:(bG P e.type).getD 0≠0)(k:aY x=some l)(d:ak T L (.faddr e.offset l)=some (c,av,L')):du P w0 S0 E L' av w (do pure (.value (<- Instr.fieldAt t (a.eval x) f))):=by
 simp only[ak]at d;split at d<;>try cases d
 all_goals rename_i j
 exact((Nu b hd h i (j5 b k j g)).1 _ _ rfl).done;exact((Nu b hd h i (j5 b k j g)).2 _ _ rfl).done
theorem Um{t:TypeId}{m:Array Field}{f sz:Nat}{g:Bool}{d:Field}{x:Operand}{p:Opd}{c:Prop}{av:AV}{L':List Blk}(j:Rel w0 S0 E L w)(e:TR E T a)(hd:P.underlying t=some (.struct m))(q:m.toList[f]?=some d)(h:rS P d.type=some g)(n:bG P d.type=some sz)(o:aY x=some p)(b:ak T L (.field g d.offset sz p)=some (c,av,L'))(i:c):du P w0 S0 E L' av w (do pure (.value (<- Instr.field t (a.eval x) f))):=by
 simp only[ak]at b;split at b<;>try cases b
 rename_i l k;cases g;obtain⟨rfl,rfl,rfl⟩:=b;exact((Nt j hd q h n (ah o k e)).2 rfl i).done;obtain⟨rfl,rfl,rfl⟩:=b;exact((Nt j hd q h n (ah o k e)).1 rfl i).done
theorem X9{op:BinOp}{t u:TypeId}{x y:Operand}{lo:LOp}{c:Prop}{av:AV}{L':List Blk}(hR:Rel w0 S0 E L w)(hT:TR E T a)(hl:Hd P op t x y=some lo)(he:ak T L lo=some (c,av,L'))(hc:c):
  du P w0 S0 E L' av w (do pure (.value (<- (do eqGuard op t x y (a.eval x) (a.eval y);binOp op t (a.eval x) (a.eval y))))):=by
 unfold Hd at hl;split at hl<;>try cases hl
 rename_i x' y' hx hy;have plain:∀{lo:LOp},lo=.bin op x' y'->ak T L lo=some (c,av,L')->du P w0 S0 E L' av w (do pure (.value (<- (do eqGuard op t x y (a.eval x) (a.eval y);binOp op t (a.eval x) (a.eval y))))):=λhlo he=>by
  subst hlo;simp only[ak]at he;split at he<;>try cases he
  rename_i u v h1 h2;rcases h3:bin op u v with _|⟨c',r⟩;simp_all
  .simp only[h3,abQ,abz,abI]at he;obtain⟨rfl,rfl,rfl⟩:=he;have hu:=ah hx h1 hT;have hv:=ah hy h2 hT;have hguard:(eqGuard op t x y (a.eval x) (a.eval y)).run P w=.ok () w:=by
    have:(∃k n,a.eval x=.int k n)\/(∃s,a.eval x=.string s):=by
     unfold bin at h3;split at h3<;>try cases h3
     all_goals (simp only[VR]at hu)
     simp[*];simp[*];simp[*];simp[*]
    unfold eqGuard;rcases this with⟨k,n,e⟩|⟨s,e⟩<;>rw[e]<;>cases op<;>simp
   obtain⟨E',x1,w',r1,r2⟩:=WO (P:=P) (t:=t) hR hu hv h3 hc;exact⟨E',x1,w',.inl (by simp[hguard,r1]),r2⟩
 have eqs:∀(neg:Bool) (k:EqK) (d:TypeDesc),op=(if neg then .neq else .eql)->P.underlying t=some d->k.fits d=true->(k=.iface->(kK x ||kK y)=true)->ak T L (.eqk neg k x' y')=some (c,av,L') ->
   du P w0 S0 E L' av w (do pure (.value (<- (do eqGuard op t x y (a.eval x) (a.eval y);binOp op t (a.eval x) (a.eval y))))):=λneg k d hop hd hk hif he=>by
  simp only[ak]at he;split at he<;>try cases he
  rename_i u v h1 h2;rcases h3:eqA k u v with _|r
  .simp_all
  .simp only[h3,abQ,abz,abI]at he;obtain⟨rfl,rfl,rfl⟩:=he;exact(YC neg hop hR (ah hx h1 hT) (ah hy h2 hT) hd hk h3 x y hif).done
 have sln:∀(neg:Bool) (e:TypeId),op=(if neg then .neq else .eql)->P.underlying t=some (.slice e)->(if Np y=true then some (LOp.slnil neg x')else none)=some lo->ak T L lo=some (c,av,L') ->
   du P w0 S0 E L' av w (do pure (.value (<- (do eqGuard op t x y (a.eval x) (a.eval y);binOp op t (a.eval x) (a.eval y))))):=λneg e hop hd hlo he=>by
  by_cases hnil:Np y=true
  case neg=>rw[if_neg hnil]at hlo;cases hlo
  rw[if_pos hnil]at hlo;cases hlo;have hy':a.eval y=.slice none 0 0:=by
   unfold Np at hnil;split at hnil
   .rfl
   simp_all
  rw[hy'];simp only[ak]at he;split at he<;>try cases he
  all_goals
   rename_i h1;have hu:=ah hx h1 hT;simp only[VR]at hu;refine(Sv neg hop hR hd ?_ x y).done
  .grind
  .grind
  .obtain⟨_,_,_,_,h2,_⟩:=hu;exact⟨_,_,h2,λe=>by cases e⟩
 have st2:∀(neg:Bool),op=(if neg then .neq else .eql)->(if Wz P t=true then some (LOp.eq2 neg x' y')else none)=some lo->ak T L lo=some (c,av,L') ->
   du P w0 S0 E L' av w (do pure (.value (<- (do eqGuard op t x y (a.eval x) (a.eval y);binOp op t (a.eval x) (a.eval y))))):=λneg hop hlo he=>by
  by_cases h2:Wz P t=true
  case neg=>rw[if_neg h2]at hlo;cases hlo
  rw[if_pos h2]at hlo;cases hlo;simp only[ak]at he;split at he<;>try cases he
  rename_i b c b' c' h3 h4;unfold Wz at h2;split at h2
  .rename_i hkd;exact(WN hkd (by simpa using h2) neg hop hR (ah hx h3 hT) (ah hy h4 hT) x y).done
  .cases h2
 split at hl;cases hl;exact plain rfl he;cases hl;exact plain rfl he
 .rename_i d _ _ hd;split at hl<;>try (cases hl;done)
  all_goals try cases hl
  exact eqs false .bool _ rfl hd rfl aev he;exact eqs true .bool _ rfl hd rfl aev he;exact eqs false .ptr _ rfl hd rfl aev he;exact eqs true .ptr _ rfl hd rfl aev he;exact sln false _ rfl hd hl he;exact sln true _ rfl hd hl he;exact eqs false .map _ rfl hd rfl aev he;exact eqs true .map _ rfl hd rfl aev he;exact eqs false .func _ rfl hd rfl aev he;exact eqs true .func _ rfl hd rfl aev he;split at hl<;>try cases hl
  rename_i hcst;exact eqs false .iface _ rfl hd rfl (λ_=>hcst) he;split at hl<;>try cases hl
  rename_i hcst;exact eqs true .iface _ rfl hd rfl (λ_=>hcst) he;exact st2 false rfl hl he;exact st2 true rfl hl he
 cases hl
end
end Go.Proofs.YtajkbcmleihaoaaGreatDoor.Av
