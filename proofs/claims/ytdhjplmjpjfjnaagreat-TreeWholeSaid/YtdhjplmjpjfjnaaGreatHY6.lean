/- Joined texts of the walk, made small by a program. -/
import Derived.Test.YtdhjplmjpjfjnaaGreatHY1
import Derived.Test.YtdhjplmjpjfjnaaGreatHCodeT1
import Derived.Test.YtdhjplmjpjfjnaaGreatHD2
import Derived.Test.YtdhjplmjpjfjnaaGreatHP5
import Derived.Test.YtdhjplmjpjfjnaaGreatHP4
import Derived.Maps.RangeRun
set_option linter.unusedSimpArgs false
set_option linter.unusedVariables false
namespace Go.Proofs.YtdhjplmjpjfjnaaGreat.Av
open Go
variable {L:List Blk} {K:AV→List Blk→Prop}
set_option maxHeartbeats 8000000
set_option maxRecDepth 100000
theorem On {a b:Pth} {na nb:Nat} {ca cb:Option Nat} (hna:na=a.length) (hnb:nb=b.length) (ha:a.length≤1100000) (h:K (.bool (decide (a=b))) L) :
   ab Tryz.prog 39 [.sl (aB a) na ca,.sl (aB b) nb cb] L K:=by
 subst hna hnb
 by_cases hl:a.length=b.length
 rotate_left
 · rw [decide_eq_false (fun c=>hl (by rw [c]))] at h
   replace h:=hid h
   have g:¬ (a.length:Int)=(b.length:Int):=by omega
   refine aa dU (by simp [bd]) ?_
   simp only [bd,am]
   refine wk ?_
   exact ak h.out
 obtain ⟨n,hn⟩:∃ n,a.length=n:=⟨_,rfl⟩
 have hnb:b.length=n:=by omega
 obtain ⟨R,hR⟩:∃ R,decide (a=b)=R:=⟨_,rfl⟩
 rw [hR] at h
 replace h:=hid h
 have hI0:decide (a.drop 0=b.drop 0)=R:=hR
 replace hI0:=hid hI0
 rw [hn,hnb]
 rw [hn] at ha
 have la:(aB a).length=n:=by simp [hn]
 have lb:(aB b).length=n:=by simp [hnb]
 replace hn:=hid hn
 replace hnb:=hid hnb
 clear hl hR
 refine aa dU (by simp [bd]) ?_
 simp only [bd,am]
 refine wk ?_
 refine ax (fun m T' L'=>∃ k:Nat,m=n - k∧k≤n∧Hid (decide (a.drop k=b.drop k)=R)∧T'=[(13,.int .i64 (k:Int)),(12,.int .i64 n),(0,.sl (aB a) n ca),(1,.sl (aB b) n cb)]∧L=L') (CutS (b:=Nat.le_refl _)) ⟨0,rfl,Nat.zero_le _,hI0,rfl,rfl⟩ ?_
 rintro _ _ L' ⟨k,rfl,hk,hI,rfl,e⟩
 subst e
 clear hI0
 have hI2:=hI.out
 by_cases hlt:k<n
 · have g1:(k:Int)<(n:Int):=by omega
   have g2:IntKind.i64.wrap ((k:Int)+1)=(k:Int)+1:=ah (by omega) (by omega)
   have l1:k<a.length:=by rw [hn.out];exact hlt
   have l2:k<b.length:=by rw [hnb.out];exact hlt
   have e1:(aB a).getD k .undef=.str (a.getD k []):=by simp [l1]
   have e2:(aB b).getD k .undef=.str (b.getD k []):=by simp [l2]
   have d1:a.drop k=a.getD k []::a.drop (k+1):=by rw [List.drop_eq_getElem_cons l1];simp [l1]
   have d2:b.drop k=b.getD k []::b.drop (k+1):=by rw [List.drop_eq_getElem_cons l2];simp [l2]
   rw [d1,d2] at hI2
   obtain ⟨x,hx⟩:∃ x,a.getD k []=x:=⟨_,rfl⟩
   obtain ⟨y,hy⟩:∃ y,b.getD k []=y:=⟨_,rfl⟩
   rw [hx] at e1 hI2
   rw [hy] at e2 hI2
   by_cases hxy:x=y
   · subst hxy
     have hI3:decide (a.drop (k+1)=b.drop (k+1))=R:=by
       rw [← hI2];simp
     replace hI3:=hid hI3
     clear hI hI2 d1 d2 hx hy l1 l2
     refine wk ?_
     exact ay _ _ _ (by omega) (CutL (b:=by simp)) ⟨k+1,rfl,hlt,hid hI3.out,rfl,rfl⟩
   · have hr:R=false:=by rw [← hI2];simp [hxy]
     have h':=h.out
     rw [hr] at h'
     replace h':=hid h'
     clear hI hI2 d1 d2 hx hy l1 l2 hr
     refine wk ?_
     exact ak h'.out
 · have hke:k=n:=by omega
   subst hke
   have g1:¬ (k:Int)<(k:Int):=by omega
   have hr:R=true:=by
     rw [← hI2,List.drop_of_length_le (by rw [hn.out];exact Nat.le_refl _),List.drop_of_length_le (by rw [hnb.out];exact Nat.le_refl _)];rfl
   have h':=h.out
   rw [hr] at h'
   replace h':=hid h'
   clear hI hI2 hr
   refine wk ?_
   exact ak h'.out
open Go Go.MapKept
section
variable {P:Program} {w0:World} {S0:SB} {E:Env} {L:List Blk} {w:World} {T:Tm} {a:Act} {N:Nat}
theorem aA.mem1:∀ {es:List (AV×AV×Nat)} {rs:List MapEntry} {f:MapEntry},aA E es rs→f∈rs→∃ e∈es,VR E e.1 f.key∧VR E e.2.1 f.val∧e.2.2=f.born
 | [],rs,f,h,hf=>by simp only [aA] at h;subst h;cases hf
 | (k,x,b)::es,rs,f,h,hf=>by
   obtain ⟨g,t,rfl,g1,g2,g3,g4⟩:=h
   rcases List.mem_cons.1 hf with rfl|hf
   · exact ⟨_,.head _,g1,g2,g3.symm⟩
   · obtain ⟨e,he,h1⟩:=aA.mem1 g4 hf
     exact ⟨e,.tail _ he,h1⟩
theorem aA.mem2:∀ {es:List (AV×AV×Nat)} {rs:List MapEntry} {e:AV×AV×Nat},aA E es rs→e∈es→∃ f∈rs,e.2.2=f.born
 | [],rs,e,h,he=>by cases he
 | (k,x,b)::es,rs,e,h,he=>by
   obtain ⟨g,t,rfl,g1,g2,g3,g4⟩:=h
   rcases List.mem_cons.1 he with rfl|he
   · exact ⟨g,.head _,g3.symm⟩
   · obtain ⟨f,hf,h1⟩:=aA.mem2 g4 he
     exact ⟨f,.tail _ hf,h1⟩
theorem Ez {t:TypeId} {v:Value} {i j ck since last:Nat} {seen:List Nat} {es:List (AV×AV×Nat)} (hR:Rel w0 S0 E L w) (hi:L[i]?=some (.miter (some j) since seen last)) (hj:L[j]?=some (.map es ck)) (hv:VR E (.ptr i 0) v)
   (hold:∀ e∈es,e.2.2<since) (hsc:since≤last) :
   ∃ r,(match r with|none=>∀ e∈es,seen.contains e.2.2=true|some e=>e∈es∧seen.contains e.2.2=false)∧bT P w0 S0 E (EX L i j since seen ck r) (xb r) w (Instr.next v false t):=by
 simp only [VR] at hv
 obtain ⟨c,hc,rfl⟩:=hv
 obtain ⟨c',q,h1,h2,h3,d,h4,rfl⟩:=hR.blk i _ hi
 rw [hc] at h1;cases h1
 obtain ⟨d',rs,g1,g2,g3⟩:=hR.blk j _ hj
 rw [h4] at g1;cases g1
 have hlt:c.blk<w.heap.size:=(Array.getElem?_eq_some_iff.1 h2).1
 have hold':∀ x∈rs.toList,x.born<since:=fun x hx=>by
   obtain ⟨e,he,_,_,h⟩:=g3.mem1 hx
   rw [← h];exact hold e he
 rw [h3]
 rcases run_next_at (P:=P) w t c.blk d.blk since last ⟨seen⟩ rs ck h2 g2 hold' hsc with ⟨h0,hrun⟩|⟨f,hf,w1,hw,hrun⟩
 · refine ⟨none,fun e he=>?_,.same hR hrun (by simp [xb,VR,VRL])⟩
   obtain ⟨f,hf,hb⟩:=g3.mem2 he
   rw [hb]
   have hz:leftOf rs ⟨seen⟩=#[]:=Array.eq_empty_of_size_eq_zero h0
   unfold leftOf at hz
   rw [Array.filter_eq_empty_iff] at hz
   have:=hz f (by simpa using hf)
   simpa using this
 · have hf':f∈rs.toList∧seen.contains f.born=false:=by
     simp only [leftOf,Array.toList_filter,List.mem_filter] at hf
     exact ⟨hf.1,by simpa using hf.2⟩
   obtain ⟨e,he,k1,k2,k3⟩:=g3.mem1 hf'.1
   have hR1:Rel w0 S0 E L w1:=by
     rcases hw with rfl|rfl
     · exact hR
     · exact hR.grown ⟨fun _ _=>rfl,Nat.le_refl _,rfl,rfl,rfl⟩
   have hlt1:c.blk<w1.heap.size:=by rcases hw with rfl|rfl<;>exact hlt
   have turn:=hR1.turn (w':={ w1 with heap:=w1.heap.setIfInBounds c.blk (.mapIter (some d.blk) since ((⟨seen⟩:Array Nat).push f.born) ck) }) (k':=.miter (some j) since (seen++[f.born]) ck) hi rfl hc (by simp) (fun b hb=>by simp [Array.getElem?_setIfInBounds,Ne.symm hb]) rfl rfl rfl
     ⟨c,some d.blk,hc,by simp [hlt1],h3,d,h4,rfl⟩ (fun _ _ e=>by cases e)
   refine ⟨some e,⟨he,by rw [k3];exact hf'.2⟩,E,.tuple #[.bool true,f.key,f.val],_,hrun,.refl E,?_,?_⟩
   · simp only [xb,VR,VRL]
     exact ⟨[.bool true,f.key,f.val],rfl,.bool true,[f.key,f.val],rfl,rfl,f.key,[f.val],rfl,k1,f.val,[],rfl,k2,rfl⟩
   · simp only [EX,k3]
     exact turn
def LOp.isNext:LOp→Bool
 | .mnext _=>true
 | _=>false
theorem HF {own:Nat} {s d:TypeId} {x:Opd} {lo:LOp} (h:qc P own s d x=some lo):lo.isNext=false:=by
 unfold qc at h
 repeat' split at h
 all_goals (first|(cases h;rfl)|cases h)
theorem Ji {op:BinOp} {t:TypeId} {x y:Operand} {lo:LOp} (h:xo P op t x y=some lo):lo.isNext=false:=by
 unfold xo at h
 repeat' split at h
 all_goals (first|(cases h;rfl)|cases h)
theorem Ev {own:Nat} {b:Builtin} {ts:List TypeId} {xs:List Opd} {lo:LOp} (h:b9 P own b ts xs=some lo):lo.isNext=false:=by
 unfold b9 at h
 repeat' split at h
 all_goals (first|(cases h;rfl)|cases h|(simp only [Option.map_eq_some_iff] at h;obtain ⟨_,_,rfl⟩:=h;rfl))
theorem HE {own:Nat} {op:Op} {y:Opd} (h:fu P own op=some (.mnext y)):∃ x,op=.next x false∧aY x=some y:=by
 cases op
 case next x isS =>
   simp only [fu] at h
   split at h
   · simp only [Option.map_eq_some_iff] at h;obtain ⟨_,_,h⟩:=h;cases h
   · rename_i hS
     simp only [Option.map_eq_some_iff,LOp.mnext.injEq] at h
     obtain ⟨_,h1,rfl⟩:=h
     exact ⟨x,by rw [show isS=false by simpa using hS],h1⟩
 case makeMap t r =>
   cases r with
   | some x=>simp [fu] at h
   | none =>
     simp only [fu] at h
     split at h<;>cases h
 all_goals (exfalso;simp only [fu] at h;try (cases h;done))
 case binOp=>have:=Ji h;cases this
 case convert x=>simp only [Option.bind_eq_some_iff] at h;obtain ⟨_,_,h⟩:=h;have:=HF h;cases this
 case call c =>
   split at h<;>try cases h
   split at h<;>try cases h
   · simp only [Option.map_eq_some_iff] at h;obtain ⟨_,_,h⟩:=h;cases h
   · have:=Ev h;cases this
 all_goals
   repeat' split at h
   all_goals (first|cases h|(simp only [Option.map_eq_some_iff] at h;obtain ⟨_,_,h⟩:=h;cases h))
theorem MO {own:Nat→Nat→Nat} {Q:Exit→Tm→List Blk→Prop} {d t i j since last ck:Nat} {rest:List SOp} {mask:List Bool} {seen:List Nat} {es:List (AV×AV×Nat)} (hok:(okS rest && (gds rest).isEmpty)=true) (ht:aq T t=some (.ptr i 0)) (hi:L[i]?=some (.miter (some j) since seen last)) (hj:L[j]?=some (.map es ck))
   (hold:∀ e∈es,e.2.2<since) (hsc:since≤last)
   (h0:(∀ e∈es,seen.contains e.2.2=true)→SL P rest (xK mask (Q .normal)) ((d,.tup [.bool false])::T) L)
   (h1:∀ e∈es,seen.contains e.2.2=false→SL P rest (xK mask (Q .normal)) ((d,.tup [.bool true,e.1,e.2.1])::T) (L.set i (.miter (some j) since (seen++[e.2.2]) ck))) :
   AW P N own (.sreg (.op ⟨some d,.mnext (.tmp t),none⟩::rest) mask) Q T L:=fun c hc ro hro w0 S0 E a w hst=>by
 obtain ⟨id,os,rfl,hlo⟩:=xr hc
 rw [Bool.and_eq_true] at hok
 refine wpIn_region ?_
 generalize List.range os.size=is at hlo ⊢
 cases is with
 | nil=>simp [bq,SOp.flatL,SOp.flat] at hlo
 | cons i0 is =>
   simp only [SOp.flatL,SOp.flat,List.cons_append,List.nil_append,bq] at hlo
   split at hlo<;>try cases hlo
   rename_i lo los' e1 e2
   obtain ⟨o,ho,hop,hdst,hd,hg⟩:=fe e1
   simp only at hop hdst hg
   rcases hg with ⟨g1,_⟩|⟨_,_,_,_,_,_,g4⟩
   · simp only [wpOpsIn,ho]
     rw [if_pos (by simp [Region.wanted,g1])]
     have hop':fu P (own id i0) o.op=some (.mnext (.tmp t)):=by
       rcases hq:fu P (own id i0) o.op with _|x
       · rw [hq] at hop;cases hop
       · rw [hq] at hop;simp only [Option.getD_some] at hop;rw [hop]
     obtain ⟨x,hx,hlx⟩:=HE hop'
     obtain ⟨hR,hT,hN,hdf⟩:=hst
     have hv:=af hlx (show evX T (.tmp t)=some (.ptr i 0) from ht) hT
     obtain ⟨r,hr,E',v,w',hrun,hle,hvr,hR'⟩:=Ez (P:=P) (t:=o.type) hR hi hj hv hold hsc
     have hnd:∀ c,o.op ≠ .defer c:=fun c e=>by rw [hx] at e;cases e
     refine ⟨fun _ _=>trivial,?_⟩
     rw [Oper.semAt_plain _ _ _ hnd]
     have hex:(execOp a.eval o).run P w=.ok (.value v) w':=by
       obtain ⟨od,oop,oty,opos,oafter,oguard⟩:=o
       simp only at hx hrun
       subst hx
       show (do pure (Next.value (← Instr.next (a.eval x) false oty)):Sem Next).run P w=_
       simp [hrun]
     rw [hex,Oper.uponIn_value]
     have hst':St w0 S0 N E' (ba (some d) (xb r) T) (EX L i j since seen ck r) (a.put o.dst v) w':=⟨hR',by rw [hdst];exact (hT.mono hle).putT (fun k hk=>by rw [hN];exact hd k (by rw [hdst];exact hk)) hvr,by rw [Do];exact hN,by rw [xh];exact hdf⟩
     have hfr:Fr (gds rest) (ba (some d) (xb r) T):=fun k hk=>by
       rw [List.isEmpty_iff.1 hok.2] at hk;cases hk
     have hSL:SL P rest (xK mask (Q .normal)) (ba (some d) (xb r) T) (EX L i j since seen ck r):=by
       cases r with
       | none=>exact h0 hr
       | some e=>exact h1 e hr.1 hr.2
     refine su rest hok.1 e2 hst' hfr hSL fun E'' T' L' a' w'' q2 q3 q4=>⟨w0,S0,E'',sel mask T',L',.refl _ _,hle.trans q2,q3.2,q4.weak (fun t v hv=>oE q3.1 hv) rfl fun _ _ e=>.inr e⟩
   · cases g4
end
end Go.Proofs.YtdhjplmjpjfjnaaGreat.Av
