/- Joined texts of the walk, made small by a program. -/
import Derived.Test.YtobihfefmlgaoaaGreatRk19
import Derived.Test.YtobihfefmlgaoaaGreatRk17
import Derived.Test.YtobihfefmlgaoaaGreatRk10
import Derived.Test.YtobihfefmlgaoaaGreatRk5
import Derived.Test.YtobihfefmlgaoaaGreatRk4
import Derived.Maps.RangeRun
import Derived.Test.YtobihfefmlgaoaaGreatRk21
import Derived.Test.YtobihfefmlgaoaaGreatRk20
set_option linter.unusedSimpArgs false
set_option linter.unusedVariables false
namespace Go.Proofs.YtobihfefmlgaoaaGreat.Av
open Go
variable {L:List Blk} {K:afC}
set_option maxHeartbeats 8000000
set_option maxRecDepth 100000
theorem agL {a b:Pth} {na nb:Nat} {ca cb:Option Nat} (hna:na=a.length) (hnb:nb=b.length) (ha:a.length<=1100000) (h:K (.bool (decide (a=b))) L) :
  afB 50 [.sl (aF a) na ca,.sl (aF b) nb cb] L K:=by
 subst hna hnb;by_cases hl:a.length=b.length;rotate_left
 ·rw [decide_eq_false (fun c=>hl (by rw [c]))] at h;replace h:=hid h;have g:¬ (a.length:Int)=(b.length:Int):=by omega
  refine acg ft ?_;exact af h.out
 obtain ⟨n,hn⟩:=aaR (a.length);have hnb:b.length=n:=by omega
 obtain ⟨R,hR⟩:=aaR (decide (a=b));rw [hR] at h;replace h:=hid h;have hI0:decide (a.drop 0=b.drop 0)=R:=hR;replace hI0:=hid hI0;rw [hn,hnb];rw [hn] at ha;have la:(aF a).length=n:=by simp [hn]
 have lb:(aF b).length=n:=by simp [hnb]
 replace hn:=hid hn;replace hnb:=hid hnb;clear hl hR;refine acg ft ?_;refine ah (fun m T' L'=>∃ k:Nat,m=n - k/\k<=n/\Hid (decide (a.drop k=b.drop k)=R)/\T'=[(13,.int .i64 (k:Int)),(12,.int .i64 n),(0,.sl (aF a) n ca),(1,.sl (aF b) n cb)]/\L=L') (CutS (b:=ahn _)) ⟨0,rfl,ahp _,hI0,rfl,rfl⟩ ?_;rintro _ _ L' ⟨k,rfl,hk,hI,rfl,e⟩;subst e;clear hI0;have hI2:=hI.out;by_cases hlt:k<n
 ·have g1:(k:Int)<(n:Int):=by omega
  have g2:=ace k (by omega);have l1:k<a.length:=by rw [hn.out];exact hlt
  have l2:k<b.length:=by rw [hnb.out];exact hlt
  have e1:(aF a).getD k .undef=.str (a.getD k []):=by simp [l1]
  have e2:(aF b).getD k .undef=.str (b.getD k []):=by simp [l2]
  have d1:a.drop k=a.getD k []::a.drop (k+1):=by rw [ah2 l1];simp [l1]
  have d2:b.drop k=b.getD k []::b.drop (k+1):=by rw [ah2 l2];simp [l2]
  rw [d1,d2] at hI2;obtain ⟨x,hx⟩:=aaR (a.getD k []);obtain ⟨y,hy⟩:=aaR (b.getD k []);rw [hx] at e1 hI2;rw [hy] at e2 hI2;by_cases hxy:x=y
  ·subst hxy;have hI3:decide (a.drop (k+1)=b.drop (k+1))=R:=by
    rw [<- hI2];simp
   replace hI3:=hid hI3;clear hI hI2 d1 d2 hx hy l1 l2;refine wk ?_;exact aq _ _ _ (by omega) (CutL (b:=by simp)) ⟨k+1,rfl,hlt,hid hI3.out,rfl,rfl⟩
  ·have hr:R=false:=by rw [<- hI2];simp [hxy]
   have h':=h.out;rw [hr] at h';replace h':=hid h';clear hI hI2 d1 d2 hx hy l1 l2 hr;refine wk ?_;exact af h'.out
 ·have hke:k=n:=by omega
  subst hke;have g1:¬ (k:Int)<(k:Int):=by omega
  have hr:R=true:=by
   rw [<- hI2,ai7 (by rw [hn.out];exact ahn _),ai7 (by rw [hnb.out];exact ahn _)];rfl
  have h':=h.out;rw [hr] at h';replace h':=hid h';clear hI hI2 hr;refine wk ?_;exact af h'.out
open Go Go.MapKept
section
variable {P:Program} {w0:World} {S0:SB} {E:Env} {L:List Blk} {w:World} {T:Tm} {a:Act} {N:Nat}
theorem aE.mem1:∀ {es:List (AV×AV×Nat)} {rs:List MapEntry} {f:MapEntry},aE E es rs->f∈rs->∃ e∈es,VR E e.1 f.key/\VR E e.2.1 f.val/\e.2.2=f.born
 | [],rs,f,h,hf=>by simp only [aE] at h;subst h;cases hf
 | (k,x,b)::es,rs,f,h,hf=>by
   obtain ⟨g,t,rfl,g1,g2,g3,g4⟩:=h;rcases ahR.1 hf with rfl|hf
   ·exact ⟨_,.head _,g1,g2,g3.symm⟩
   ·obtain ⟨e,he,h1⟩:=aE.mem1 g4 hf;exact ⟨e,.tail _ he,h1⟩
theorem aE.mem2:∀ {es:List (AV×AV×Nat)} {rs:List MapEntry} {e:AV×AV×Nat},aE E es rs->e∈es->∃ f∈rs,e.2.2=f.born
 | [],rs,e,h,he=>by cases he
 | (k,x,b)::es,rs,e,h,he=>by
   obtain ⟨g,t,rfl,g1,g2,g3,g4⟩:=h;rcases ahR.1 he with rfl|he
   ·exact ⟨g,.head _,g3.symm⟩
   ·obtain ⟨f,hf,h1⟩:=aE.mem2 g4 he;exact ⟨f,.tail _ hf,h1⟩
theorem U1 {t:TypeId} {v:Value} {i j ck since last:Nat} {seen:List Nat} {es:List (AV×AV×Nat)} (hR:Rel w0 S0 E L w) (hi:L[i]?=some (.miter (some j) since seen last)) (hj:L[j]?=some (.map es ck)) (hv:VR E (.ptr i 0) v)
  (hold:∀ e∈es,e.2.2<since) (hsc:since<=last) :
  ∃ r,(match r with|none=>∀ e∈es,seen.contains e.2.2=true|some e=>e∈es/\seen.contains e.2.2=false)/\cJ P w0 S0 E (Vx L i j since seen ck r) (NZ r) w (Instr.next v false t):=by
 simp only [VR] at hv;obtain ⟨c,hc,rfl⟩:=hv;obtain ⟨c',q,h1,h2,h3,d,h4,rfl⟩:=hR.blk i _ hi;rw [hc] at h1;cases h1;obtain ⟨d',rs,g1,g2,g3⟩:=hR.blk j _ hj;rw [h4] at g1;cases g1;have hlt:c.blk<w.heap.size:=(ah4.1 h2).1;have hold':∀ x∈rs.toList,x.born<since:=fun x hx=>by
  obtain ⟨e,he,_,_,h⟩:=g3.mem1 hx;rw [<- h];exact hold e he
 rw [h3];rcases run_next_at (P:=P) w t c.blk d.blk since last ⟨seen⟩ rs ck h2 g2 hold' hsc with ⟨h0,hrun⟩|⟨f,hf,w1,hw,hrun⟩
 ·refine ⟨none,fun e he=>?_,.same hR hrun (by simp [NZ,VR,VRL])⟩;obtain ⟨f,hf,hb⟩:=g3.mem2 he;rw [hb];have hz:leftOf rs ⟨seen⟩=#[]:=Array.eq_empty_of_size_eq_zero h0;unfold leftOf at hz;rw [Array.filter_eq_empty_iff] at hz;have:=hz f (by simpa using hf);simpa using this
 ·have hf':f∈rs.toList/\seen.contains f.born=false:=by
   simp only [leftOf,Array.toList_filter,ah5] at hf;exact ⟨hf.1,by simpa using hf.2⟩
  obtain ⟨e,he,k1,k2,k3⟩:=g3.mem1 hf'.1;have hR1:Rel w0 S0 E L w1:=by
   rcases hw with rfl|rfl
   ·exact hR
   ·exact hR.grown ⟨fun _ _=>rfl,ahn _,rfl,rfl,rfl⟩
  have hlt1:c.blk<w1.heap.size:=by rcases hw with rfl|rfl<;>exact hlt
  have turn:=hR1.turn (w':={ w1 with heap:=w1.heap.setIfInBounds c.blk (.mapIter (some d.blk) since ((⟨seen⟩:Array Nat).push f.born) ck) }) (k':=.miter (some j) since (seen++[f.born]) ck) hi rfl hc (by simp) (fun b hb=>by simp [ajq,Ne.symm hb]) rfl rfl rfl
   ⟨c,some d.blk,hc,by simp [hlt1],h3,d,h4,rfl⟩ (fun _ _ e=>by cases e)
  refine ⟨some e,⟨he,by rw [k3];exact hf'.2⟩,E,.tuple #[.bool true,f.key,f.val],_,hrun,.refl E,?_,?_⟩
  ·simp only [NZ,VR,VRL];exact ⟨[.bool true,f.key,f.val],rfl,.bool true,[f.key,f.val],rfl,rfl,f.key,[f.val],rfl,k1,f.val,[],rfl,k2,rfl⟩
  ·simp only [Vx,k3];exact turn
def LOp.isNext:LOp->Bool
 | .mnext _=>true
 | _=>false
theorem YQ {own:Nat} {s d:TypeId} {x:Opd} {lo:LOp} (h:yV P own s d x=some lo):lo.isNext=false:=by
 unfold yV at h
 repeat' split at h
 all_goals (first|(cases h;rfl)|cases h)
theorem aa6 {op:BinOp} {t:TypeId} {x y:Operand} {lo:LOp} (h:Of P op t x y=some lo):lo.isNext=false:=by
 unfold Of at h
 repeat' split at h
 all_goals (first|(cases h;rfl)|cases h)
theorem UY {own:Nat} {b:Builtin} {ts:List TypeId} {xs:List Opd} {lo:LOp} (h:da P own b ts xs=some lo):lo.isNext=false:=by
 unfold da at h
 repeat' split at h
 all_goals (first|(cases h;rfl)|cases h|(simp only [ahG] at h;obtain ⟨_,_,rfl⟩:=h;rfl))
theorem YP {own:Nat} {op:Op} {y:Opd} (h:jG P own op=some (.mnext y)):∃ x,op=.next x false/\bB x=some y:=by
 cases op
 case next x isS =>
  simp only [jG] at h;split at h
  ·simp only [ahG] at h;obtain ⟨_,_,h⟩:=h;cases h
  ·rename_i hS
   simp only [ahG,LOp.mnext.injEq] at h;obtain ⟨_,h1,rfl⟩:=h;exact ⟨x,by rw [show isS=false by simpa using hS],h1⟩
 case makeMap t r =>
  cases r with
  | some x=>simp [jG] at h
  | none =>
    simp only [jG] at h;split at h<;>cases h
 all_goals (exfalso;simp only [jG] at h;try (cases h;done))
 case binOp=>have:=aa6 h;cases this
 case convert x=>simp only [aip] at h;obtain ⟨_,_,h⟩:=h;have:=YQ h;cases this
 case call c =>
  split at h<;>try cases h
  split at h<;>try cases h
  ·simp only [ahG] at h;obtain ⟨_,_,h⟩:=h;cases h
  ·have:=UY h;cases this
 all_goals
  repeat' split at h
  all_goals (first|cases h|(simp only [ahG] at h;obtain ⟨_,_,h⟩:=h;cases h))
theorem afd {own:Nat->Nat->Nat} {Q:Exit->Tm->List Blk->Prop} {d t i j since last ck:Nat} {rest:List SOp} {mask:List Bool} {seen:List Nat} {es:List (AV×AV×Nat)} (hok:(okS rest && (gds rest).isEmpty)=true) (ht:az T t=some (.ptr i 0)) (hi:L[i]?=some (.miter (some j) since seen last)) (hj:L[j]?=some (.map es ck))
  (hold:∀ e∈es,e.2.2<since) (hsc:since<=last)
  (h0:(∀ e∈es,seen.contains e.2.2=true)->SL P rest (UT mask (Q .normal)) ((d,.tup [.bool false])::T) L)
  (h1:∀ e∈es,seen.contains e.2.2=false->SL P rest (UT mask (Q .normal)) ((d,.tup [.bool true,e.1,e.2.1])::T) (L.set i (.miter (some j) since (seen++[e.2.2]) ck))) :
  AW P N own (.sreg (.op ⟨some d,.mnext (.tmp t),none⟩::rest) mask) Q T L:=fun c hc ro hro w0 S0 E a w hst=>by
 obtain ⟨id,os,rfl,hlo⟩:=Oh hc;rw [aht] at hok;refine wpIn_region ?_;generalize List.range os.size=is at hlo ⊢;cases is with
 | nil=>simp [ch,SOp.flatL,SOp.flat] at hlo
 | cons i0 is =>
   simp only [SOp.flatL,SOp.flat,aig,ah3,ch] at hlo;split at hlo<;>try cases hlo
   rename_i lo los' e1 e2
   obtain ⟨o,ho,hop,hdst,hd,hg⟩:=gW e1;simp only at hop hdst hg;rcases hg with ⟨g1,_⟩|⟨_,_,_,_,_,_,g4⟩
   ·simp only [wpOpsIn,ho];rw [if_pos (by simp [Region.wanted,g1])];have hop':jG P (own id i0) o.op=some (.mnext (.tmp t)):=by
     rcases hq:jG P (own id i0) o.op with _|x
     ·rw [hq] at hop;cases hop
     ·rw [hq] at hop;simp only [ah9] at hop;rw [hop]
    obtain ⟨x,hx,hlx⟩:=YP hop';obtain ⟨hR,hT,hN,hdf⟩:=hst;have hv:=ak hlx (show evX T (.tmp t)=some (.ptr i 0) from ht) hT;obtain ⟨r,hr,E',v,w',hrun,hle,hvr,hR'⟩:=U1 (P:=P) (t:=o.type) hR hi hj hv hold hsc;have hnd:∀ c,o.op ≠ .defer c:=fun c e=>by rw [hx] at e;cases e
    refine ⟨fun _ _=>trivial,?_⟩;rw [Oper.semAt_plain _ _ _ hnd];have hex:(execOp a.eval o).run P w=.ok (.value v) w':=by
     obtain ⟨od,oop,oty,opos,oafter,oguard⟩:=o;simp only at hx hrun;subst hx;show (do pure (Next.value (<- Instr.next (a.eval x) false oty)):Sem Next).run P w=_
     simp [hrun]
    rw [hex,Oper.uponIn_value];have hst':St w0 S0 N E' (co (some d) (NZ r) T) (Vx L i j since seen ck r) (a.put o.dst v) w':=⟨hR',by rw [hdst];exact (hT.mono hle).putT (fun k hk=>by rw [hN];exact hd k (by rw [hdst];exact hk)) hvr,by rw [Tx];exact hN,by rw [N9];exact hdf⟩;have hfr:Fr (gds rest) (co (some d) (NZ r) T):=fun k hk=>by
     rw [List.isEmpty_iff.1 hok.2] at hk;cases hk
    have hSL:SL P rest (UT mask (Q .normal)) (co (some d) (NZ r) T) (Vx L i j since seen ck r):=by
     cases r with
     | none=>exact h0 hr
     | some e=>exact h1 e hr.1 hr.2
    refine GZ rest hok.1 e2 hst' hfr hSL fun E'' T' L' a' w'' q2 q3 q4=>⟨w0,S0,E'',sel mask T',L',.refl _ _,hle.trans q2,q3.2,q4.weak (fun t v hv=>K2 q3.1 hv) rfl fun _ _ e=>.inr e⟩
   ·cases g4
end
set_option maxHeartbeats 8000000
set_option maxRecDepth 100000
theorem Z3 {nb bn:Int->Nat}:∀ {l:List aB} {x:aB},(l.map fun x=>bn x.id).Nodup->x∈l->(l.map (fz nb bn)).find? (fun e=>Nat.beq e.2.2 (bn x.id))=some (fz nb bn x)
 | [],x,_,h=>by cases h
 | y::l,x,hn,h=>by
   rw [ahH,aiJ] at hn;rcases ahR.1 h with h|h
   ·subst h;simp [fz]
   ·have hne:bn y.id≠bn x.id:=fun e=>hn.1 (ahs.2 ⟨x,h,e.symm⟩)
    have hbq:Nat.beq (bn y.id) (bn x.id)=false:=by
     cases hh:Nat.beq (bn y.id) (bn x.id) with
     | false=>rfl
     | true=>exact absurd (Nat.eq_of_beq_eq_true hh) hne
    simp only [ahH,ajE];rw [show Nat.beq (fz nb bn y).2.2 (bn x.id)=false from hbq];exact Z3 hn.2 h
theorem ahi {nb bn:Int->Nat} {l:List aB} {x:aB} {ck:Nat} {seen:List Nat} (hn:(l.map fun x=>bn x.id).Nodup) (hx:x∈l):mat (l.map (fz nb bn)) ck (seen++[bn x.id]) ck=some (fz nb bn x):=by
 simp only [mat,List.getLast?_append,List.getLast?_singleton,Option.some_or,if_true];exact Z3 hn hx
theorem acS {β:Type}:∀ (ps l:List β),ps.Nodup->(∀ x∈ps,x∈l)->ps.length<=l.length
 | [],l,_,_=>ahp _
 | x::ps,l,hn,hs=>by
   obtain ⟨hx,hn'⟩:=aiJ.1 hn;obtain ⟨a,b,rfl⟩:=List.append_of_mem (hs x (by simp));have:=acS ps (a++b) hn' fun y hy=>by
    have:=hs y (by simp [hy]);rcases ahr.1 this with h|h
    ·exact aih _ h
    ·rcases ahR.1 h with h|h
     ·rw [h] at hy;exact absurd hy hx
     ·exact aiI _ h
   simp only [ahy,ahD] at this ⊢;omega
structure UU (bn:Int->Nat) (l:List aB) (ps:List aB) (seen:List Nat):Prop where
 sub:∀ x∈ps,x∈l
 nd:ps.Nodup
 eq:seen=ps.map fun x=>bn x.id
theorem UU.nil {bn:Int->Nat} {l:List aB}:UU bn l [] []:=⟨fun _ h=>absurd h air,aj2,rfl⟩
theorem UU.next {bn:Int->Nat} {l:List aB} {ps:List aB} {seen:List Nat} (h:UU bn l ps seen) {x:aB} (hx:x∈l) (hs:seen.contains (bn x.id)=false):UU bn l (ps++[x]) (seen++[bn x.id]):=by
 refine ⟨fun y hy=>?_,?_,by rw [h.eq];simp⟩
 ·rcases ahr.1 hy with hy|hy
  ·exact h.sub y hy
  ·rw [ahI.1 hy];exact hx
 ·rw [ajm];refine ⟨h.nd,by simp,fun a ha b hb e=>?_⟩;rw [ahI.1 hb] at e;have:bn x.id∈seen:=by rw [h.eq,<- e];exact ahs.2 ⟨a,ha,rfl⟩
  rw [aiq] at hs;simp [this] at hs
theorem UU.all {bn:Int->Nat} {l:List aB} {ps:List aB} {seen:List Nat} (h:UU bn l ps seen) (hl:l.Nodup) (hb:(l.map fun x=>bn x.id).Nodup) (ha:∀ x∈l,seen.contains (bn x.id)=true):ps.Perm l:=by
 refine (List.perm_ext_iff_of_nodup h.nd hl).2 fun x=>⟨h.sub x,fun hx=>?_⟩
 have:=ha x hx;rw [aiq,decide_eq_true_eq,h.eq] at this;obtain ⟨y,hy,e⟩:=ahs.1 this;rw [<- ff hb (h.sub y hy) hx e];exact hy
theorem UU.len {bn:Int->Nat} {l:List aB} {ps:List aB} {seen:List Nat} (h:UU bn l ps seen):ps.length<=l.length:=acS ps l h.nd h.sub
theorem ahg {bn:Int->Nat} {l:List aB} {seen:List Nat} {x:aB} (hx:x∈l) (hs:seen.contains (bn x.id)=false):(l.filter fun r => !(seen++[bn x.id]).contains (bn r.id)).length<(l.filter fun r => !seen.contains (bn r.id)).length:=by
 have e:(l.filter fun r => !(seen++[bn x.id]).contains (bn r.id))=(l.filter fun r => !seen.contains (bn r.id)).filter (fun r=>decide (bn r.id≠bn x.id)):=by
  rw [List.filter_filter];refine List.filter_congr fun r _=>?_
  by_cases h:bn r.id=bn x.id<;>simp [h]
 rw [e];refine List.length_filter_lt_length_iff_exists.2 ⟨x,ah5.2 ⟨hx,by rw [hs];rfl⟩,by simp⟩
theorem TOk.nodup {suf:List Rdn} {last:Int} {l:List aB} (h:TOk suf last l):l.Nodup:=by
 have hn:=h.inv.ids;unfold dq at hn;rw [ahS] at hn;exact yS hn
theorem Xf (q:Nat->Bool):∀ l:List aB,AV.refsL q (ow l)=true
 | []=>rfl
 | x::l=>by
   show (AV.refs q _ && AV.refsL q _)=true
   rw [Xf q l];rfl
theorem Td {suf:List Rdn} {last:Int} {l:List aB} (ht:TOk suf last l) (hln:l.length<=1100000) {L:List Blk} {iv mn mi:Nat} {nb bn:Int->Nat} {ck ci:Nat} {rs:List TKy} (hc:bu L iv mn mi nb bn ck ci rs suf last l) {id s:Int} {K:afC} (h:K (.sl ((scT l id s).map (AV.int .i64)) (scT l id s).length none) L) :
  afB 23 [.ptr iv 0,.int .i64 id,.int .i64 s] L K:=by
 have hv:=hc.v;have hn:=hc.n;have hivl:iv<L.length:=(ahm.1 hv).1;have hmnl:mn<L.length:=(ahm.1 hn).1;have av:∀ X:List Blk,(L++X)[iv]?=some (.cells [dnA suf,.lmap mn,.lmap mi,.int .i64 last]):=fun X=>by rw [ahq hivl];exact hv
 have an:∀ X:List Blk,(L++X)[mn]?=some (.map (l.map (fz nb bn)) ck):=fun X=>by rw [ahq hmnl];exact hn
 have hkf:bg .int (.int .i64 id)=true:=rfl;unfold scT at h;rcases hc.node id with ⟨e1,e2⟩|⟨a,j,e1,ha,hai,e2,e3⟩
 ·rw [e1] at h;replace h:=hid h;clear hc e1 hv hn;refine acg eZ ?_;refine ay ?_;rw [show (AV.sl [] 0 (some 0)).frz=.sl (([]:List Int).map (AV.int .i64)) ([]:List Int).length none from rfl];exact ab rfl h.out
 ·rw [e1] at h;simp only at h;have hnl:nb id<L.length:=(ahm.1 e3).1;unfold lv at e3;have ad:∀ X:List Blk,(L++X)[nb id]?=some (.cells [dnA a.nm,.sl (aF (pth a)) a.nm.length none,atR a.av,.int .i64 (aZ (dq l) (NK a.nm):Nat)]):=fun X=>by rw [ahq hnl];exact e3
  by_cases hs:s<0\/2<s
  ·rw [if_pos hs] at h;replace h:=hid h;clear hc e1 hv hn e3;by_cases c1:s<0
   ·refine acg eZ ?_;refine ay ?_;rw [show (AV.sl [] 0 (some 0)).frz=.sl (([]:List Int).map (AV.int .i64)) ([]:List Int).length none from rfl];exact ab rfl h.out
   ·have c2:2<s:=by omega
    have c3:s > 2:=c2;refine acg eZ ?_;refine ay ?_;rw [show (AV.sl [] 0 (some 0)).frz=.sl (([]:List Int).map (AV.int .i64)) ([]:List Int).length none from rfl];exact ab rfl h.out
  ·rw [if_neg hs] at h;have c1:¬ s<0:=by omega
   have c2:¬ 2<s:=by omega
   have c3:¬ s > 2:=c2;replace h:=hid h;replace hc:=hid hc;replace ht:=hid ht;clear hv hn e3 hs;refine acg eZ ?_;refine ah (fun n T' L'=>∃ (seen:List Nat) (ps:List aB) (v:AV) (Z:List Blk),n=(l.filter fun r => !seen.contains (bn r.id)).length/\Hid (UU bn l ps seen)/\Hid ((ps.filter (eK a s)=[]/\v=.sl [] 0 (some 0))\/∃ m,ps.filter (eK a s)≠[]/\v=.lsl (L.length+2+m) 0 (ps.filter (eK a s)).length none 1/\Z[m]?=some (.cells (ow (ps.filter (eK a s)))))/\T'=[(44,.ptr (L.length+1) 0),(8,v),(7,.sl (aF (pth a)) a.nm.length none),(3,.ptr L.length 0),(0,.ptr iv 0),(1,.int .i64 id),(2,.int .i64 s)]/\L'=L++([.cells [.ptr iv 0],.miter (some mn) ck seen ck]++Z)) (CutS (b:=by simp)) ⟨[],[],_,[],rfl,hid UU.nil,hid (.inl ⟨rfl,rfl⟩),rfl,rfl⟩ ?_;rintro _ _ _ ⟨seen,ps,v,Z,rfl,hcm,hv,rfl,rfl⟩;have i1:∀ (a b:Blk) (Z:List Blk),(L++([a,b]++Z))[L.length+1]?=some b:=fun a b Z=>by rw [ahu (by omega)];simp
   have i3:∀ (a b c:Blk) (Z:List Blk),(L++([a,b]++Z)).set (L.length+1) c=L++([a,c]++Z):=fun a b c Z=>by rw [ahP _ _ (by omega),show L.length+1 - L.length=1 by omega];rfl
   refine cP ?_;refine afd (i:=L.length+1) (j:=mn) (es:=l.map (fz nb bn)) (by kernel_rfl) rfl (i1 _ _ _) (an _) (fun e he=>?_) (ahn _) (fun hall=>?_) (fun e he hs=>?_)
   ·obtain ⟨p,hp,rfl⟩:=ahs.1 he;exact hc.out.blt p hp
   ·have hperm:=hcm.out.all ht.out.nodup hc.out.bnd fun x hx=>hall (fz nb bn x) (ahs.2 ⟨x,hx,rfl⟩)
    have hsrt:=ht.out.srt a s (hperm.filter (eK a s));have hml:=ahV (ai5 (eK a s) ps) hcm.out.len;have hmm:∀ x∈ps.filter (eK a s),x∈l:=fun x hx=>hcm.out.sub x (ah5.1 hx).1
    obtain ⟨m0,hm0⟩:=aaR (ps.filter (eK a s));have hv':=hv.out;rw [hm0] at hv' hsrt hml hmm;rw [<- hsrt] at h;replace hmm:=hid hmm;replace hml:=hid hml;clear hall hperm hsrt hcm hv hm0;refine sk ?_;rcases hv' with ⟨rfl,rfl⟩|⟨m,hne,rfl,hZ⟩
    ·have kk1:Hid (∀ {cap:Option Nat} {fv:AV} {L:List Blk} {K:afC},K (.tup []) L->afB 51 [.sl [] 0 cap,fv] L K):=@hid _ (by intro cap fv L K q;exact acj q);clear hmm hml;refine wk ?_;refine ay ?_;have h':=h.out;rw [List.mergeSort_nil] at h';exact ab rfl h'
    ·have hid':∀ (b c:Blk),(L++b::c::Z)[L.length+2+m]?=some (.cells (ow m0)):=fun b c=>by
      rw [ahu (by omega),show L.length+2+m - L.length=m+1+1 by omega];simpa using hZ
     have hst:∀ (b c d:Blk),(L++b::c::Z).set (L.length+2+m) d=L++b::c::Z.set m d:=fun b c d=>by
      rw [ahP _ _ (by omega),show L.length+2+m - L.length=m+1+1 by omega];rfl
     have hm:m<Z.length:=(ahm.1 hZ).1;obtain ⟨sr,hsr⟩:=aaR (m0.mergeSort leE);have hsl:sr.length=m0.length:=by rw [<- hsr,aku]
     have kk1:Hid (∀ {K:afC},K (.tup []) (L ++ .cells [.ptr iv 0] :: .miter (some mn) ck seen ck::Z.set m (.cells (ow sr)))->afB 51 [.lsl (L.length+2+m) 0 m0.length none 1,.func 52 [.ptr L.length 0]] (L ++ .cells [.ptr iv 0] :: .miter (some mn) ck seen ck::Z) K):=@hid _ (by
      intro K q;refine ad5 ht.out hmm.out hne (ahV hml.out hln) (hc.out.app _) (hid' _ _) (by rw [ahu (ahn _)];simp) ?_;rw [hst,hsr];exact q)
     rw [hsr] at h;have e4:(sr.map fun x=>x.id).map (AV.int .i64)=ow sr:=by rw [ahS];rfl
     rw [e4,ahF] at h;clear hmm hml hne hsr hst hid' hZ;refine wk ?_;refine KW (i:=L.length+2+m) (l:=ow sr) ?_ ?_
     ·rw [ahu (by omega),show L.length+2+m - L.length=m+1+1 by omega];simp [hm]
     rw [show (AV.lsl (L.length+2+m) 0 m0.length none 1).snap (L.length+2+m) (ow sr)=.sl (ow sr) sr.length none from by simp [AV.snap,<- hsl,ah0],ahP _ _ (by omega)];refine ab ?_ h.out;simp only [AV.refs];exact Xf _ sr
   ·obtain ⟨x,hx,rfl⟩:=ahs.1 he;clear he;have hs':seen.contains (bn x.id)=false:=hs;have hlt:=hid (ahg hx hs');have hcm':=hid (hcm.out.next hx hs');have hmat:=ahi (nb:=nb) (ck:=ck) (seen:=seen) hc.out.bnd hx;have hxn:=hc.out.nd x hx;have hxl:nb x.id<L.length:=(ahm.1 hxn).1;unfold lv at hxn;have axd:∀ X:List Blk,(L++X)[nb x.id]?=some (.cells [dnA x.nm,.sl (aF (pth x)) x.nm.length none,atR x.av,.int .i64 (aZ (dq l) (NK x.nm):Nat)]):=fun X=>by rw [ahq hxl];exact hxn
    have hin:=ac9 ht.out ha hx s;have hpl:(pth x).length=x.nm.length:=by simp [pth,be]
    have hpa:(pth a).length=a.nm.length:=by simp [pth,be]
    have hfil:(ps++[x]).filter (eK a s)=ps.filter (eK a s)++(if eK a s x=true then [x] else []):=by
     rw [ajR];congr 1;by_cases c:eK a s x=true<;>simp [c]
    have hx32:=(ht.out.ok x hx).len;have ha32:=(ht.out.ok a ha).len;have hml:=ahV (ai5 (eK a s) ps) hcm.out.len;rw [hpl,hpa] at hin;simp only [fz] at *;clear hs hs' hcm;simp only [i3];have w1:IntKind.i64.wrap ((x.nm.length:Int) - (a.nm.length:Int))=(x.nm.length:Int) - (a.nm.length:Int):=ac (by omega) (by omega);have kE:Hid (∀ {ca cb:Option Nat} {L:List Blk} {K:afC},a.nm.length<=x.nm.length->K (.bool (decide (List.take a.nm.length (pth x)=pth a))) L->afB 50 [.sl (List.take a.nm.length (aF (pth x))) a.nm.length ca,.sl (aF (pth a)) a.nm.length cb] L K):=@hid _ (by
     intro ca cb L K hle q;rw [<- ajV];exact agL (a:=(pth x).take a.nm.length) (b:=pth a) (by rw [ail,hpl];omega) hpa.symm (by rw [ail,hpl];omega) q)
    obtain ⟨u,hu⟩:=aaR (decide (List.take a.nm.length (pth x)=pth a));rw [hu] at kE hin;obtain ⟨xi,hxi⟩:=aaR (x.id);have hfT:eK a s x=true->(ps++[x]).filter (eK a s)=ps.filter (eK a s)++[x]:=fun e=>by rw [hfil,if_pos e]
    have hfF:eK a s x=false->(ps++[x]).filter (eK a s)=ps.filter (eK a s):=fun e=>by rw [hfil,if_neg (by rw [e];decide)];simp
    obtain ⟨m0,hm0⟩:=aaR (ps.filter (eK a s));rw [hm0] at hv hfT hfF hml;obtain ⟨nx,hnx⟩:=aaR (x.nm.length);obtain ⟨na,hna⟩:=aaR (a.nm.length);rw [hxi] at hmat axd;rw [hnx,hna] at kE hin w1;rw [hnx] at axd hx32;rw [hna] at ad ha32;obtain ⟨xp,hxp⟩:=aaR (aF (pth x));rw [hxp] at kE axd;have hxpl:xp.length=nx:=by rw [<- hxp,ahF,hpl,hnx]
    have out:eK a s x=false->Hid ((m0=[]/\v=.sl [] 0 (some 0))\/∃ m,m0≠[]/\v=.lsl (L.length+2+m) 0 m0.length none 1/\Z[m]?=some (.cells (ow m0)))->Hid (((ps++[x]).filter (eK a s)=[]/\v=.sl [] 0 (some 0))\/∃ m,(ps++[x]).filter (eK a s)≠[]/\v=.lsl (L.length+2+m) 0 ((ps++[x]).filter (eK a s)).length none 1/\Z[m]?=some (.cells (ow ((ps++[x]).filter (eK a s))))):=fun e hv=>by rw [hfF e];exact hv
    rw [hna,hxi];rw [hxi] at hlt hcm';have hinF:=fun (e:eK a s x=false)=>out e hv
    clear out;replace hinF:=hid hinF;replace hin:=hid hin;have hids:=hid (show ow [x]=[.int .i64 xi] from by rw [<- hxi];rfl);clear hfil hxn hx hfF hpl hpa hxi hnx hna hu hxp hm0 ha hai e1;by_cases d1:na<=nx;rotate_left
    ·have g1:¬ (0:Int)<=(nx:Int) - (na:Int):=by omega
     have g2:¬ (nx:Int) - (na:Int) ≥ 0:=g1;have out:=hinF.out (by rw [hin.out,decide_eq_false g1];rfl);clear kE hin hinF hv hfT;refine sk ?_;refine wk ?_;refine aq _ _ _ hlt.out (CutS (b:=by simp)) ⟨_,ps++[x],_,_,rfl,hid hcm'.out,out.out,rfl,rfl⟩
    have kk1:=@hid _ (fun {ca cb:Option Nat} {L:List Blk} {K:afC}=>kE.out (ca:=ca) (cb:=cb) (L:=L) (K:=K) d1);have g1:(0:Int)<=(nx:Int) - (na:Int):=by omega
    have g2:(nx:Int) - (na:Int) ≥ 0:=g1;have g3:(na:Int)<=(nx:Int):=by omega
    have hin:=hin.out;rw [decide_eq_true g1,aid] at hin;replace hin:=hid hin;clear kE;cases u with
    | false =>
      have out:=hinF.out (by rw [hin.out];rfl);clear hin hinF hv hfT;refine sk ?_;refine wk ?_;refine aq _ _ _ hlt.out (CutS (b:=by simp)) ⟨_,ps++[x],_,_,rfl,hid hcm'.out,out.out,rfl,rfl⟩
    | true =>
      have hin:=hin.out;rw [aid] at hin;replace hin:=hid hin;by_cases d2:s=2
      ·subst d2;have hfl:=hid (hfT (by rw [hin.out];rfl));clear hin hinF hfT;rcases hv.out with ⟨hm0,rfl⟩|⟨m,hne,rfl,hZ⟩
       ·subst hm0;clear hv;refine sk ?_;refine wk ?_;refine aq _ _ _ hlt.out (CutS (b:=by simp)) ⟨_,ps++[x],_,Z++[.cells [.int .i64 xi]],rfl,hid hcm'.out,hid (.inr ⟨Z.length,by rw [hfl.out];simp,?_,by rw [hfl.out,ah3,hids.out];simp⟩),rfl,by simp⟩;rw [hfl.out,show L.length+(Z.length+1+1)=L.length+2+Z.length by omega];rfl
       ·have hm:m<Z.length:=(ahm.1 hZ).1;have hLZ:∀ (a b:Blk),(L++a::b::Z)[L.length+2+m]?=some (.cells (ow m0)):=fun a b=>by
         rw [ahu (by omega),show L.length+2+m - L.length=m+1+1 by omega];simpa using hZ
        have hds:∀ (a b:Blk),(L++a::b::Z).set (L.length+2+m) .dead=L++a::b::Z.set m .dead:=fun a b=>by
         rw [ahP _ _ (by omega),show L.length+2+m - L.length=m+1+1 by omega];rfl
        obtain ⟨C,hC⟩:=aaR (ow m0);obtain ⟨d,hd⟩:=aaR (m0.length);have hCl:C.length=d:=by rw [<- hC,ahF,hd]
        have hCt:List.take d C=C:=ah0 (by omega);have hd2:d<=1100000:=by omega
        rw [hC] at hLZ;rw [hd];have hC2:=hid hC;have hd3:=hid hd;clear hv hZ hC hd hml;refine sk ?_;refine wk ?_;refine aq _ _ _ hlt.out (CutS (b:=by simp)) ⟨_,ps++[x],_,Z.set m .dead++[.cells (C++[.int .i64 xi])],rfl,hid hcm'.out,hid (.inr ⟨Z.length,by rw [hfl.out];simp,?_,by rw [hfl.out,show ow (m0++[x])=ow m0++ow [x] from ahN,hC2.out,hids.out,ahu (by simp)];simp⟩),rfl,by simp⟩;rw [hfl.out,show L.length+(Z.length+1+1)=L.length+2+Z.length by omega,ahy,hd3.out];rfl
      ·by_cases d3:(nx:Int) - (na:Int)=s
       ·have hfl:=hid (hfT (by rw [hin.out];rw [decide_eq_true d3,Bool.or_true]));subst d3;clear hin hinF hfT;rcases hv.out with ⟨hm0,rfl⟩|⟨m,hne,rfl,hZ⟩
        ·subst hm0;clear hv;refine sk ?_;refine wk ?_;refine aq _ _ _ hlt.out (CutS (b:=by simp)) ⟨_,ps++[x],_,Z++[.cells [.int .i64 xi]],rfl,hid hcm'.out,hid (.inr ⟨Z.length,by rw [hfl.out];simp,?_,by rw [hfl.out,ah3,hids.out];simp⟩),rfl,by simp⟩;rw [hfl.out,show L.length+(Z.length+1+1)=L.length+2+Z.length by omega];rfl
        ·have hm:m<Z.length:=(ahm.1 hZ).1;have hLZ:∀ (a b:Blk),(L++a::b::Z)[L.length+2+m]?=some (.cells (ow m0)):=fun a b=>by
          rw [ahu (by omega),show L.length+2+m - L.length=m+1+1 by omega];simpa using hZ
         have hds:∀ (a b:Blk),(L++a::b::Z).set (L.length+2+m) .dead=L++a::b::Z.set m .dead:=fun a b=>by
          rw [ahP _ _ (by omega),show L.length+2+m - L.length=m+1+1 by omega];rfl
         obtain ⟨C,hC⟩:=aaR (ow m0);obtain ⟨d,hd⟩:=aaR (m0.length);have hCl:C.length=d:=by rw [<- hC,ahF,hd]
         have hCt:List.take d C=C:=ah0 (by omega);have hd2:d<=1100000:=by omega
         rw [hC] at hLZ;rw [hd];have hC2:=hid hC;have hd3:=hid hd;clear hv hZ hC hd hml;refine sk ?_;refine wk ?_;refine aq _ _ _ hlt.out (CutS (b:=by simp)) ⟨_,ps++[x],_,Z.set m .dead++[.cells (C++[.int .i64 xi])],rfl,hid hcm'.out,hid (.inr ⟨Z.length,by rw [hfl.out];simp,?_,by rw [hfl.out,show ow (m0++[x])=ow m0++ow [x] from ahN,hC2.out,hids.out,ahu (by simp)];simp⟩),rfl,by simp⟩;rw [hfl.out,show L.length+(Z.length+1+1)=L.length+2+Z.length by omega,ahy,hd3.out];rfl
       ·have out:=hinF.out (by rw [hin.out,decide_eq_false d2,decide_eq_false d3];rfl);clear hin hinF hv hfT;refine sk ?_;refine wk ?_;refine aq _ _ _ hlt.out (CutS (b:=by simp)) ⟨_,ps++[x],_,_,rfl,hid hcm'.out,out.out,rfl,rfl⟩
variable {L:List Blk} {K:afC}
theorem ag0 {rows:List AV} {cap:Option Nat} {i j:Nat} (hn:rows.length<=1100000) {Inv:Nat->List Blk->List Blk->Prop} {L:List Blk} {K:afC}
  (hp:∀ k A Z,Inv k A Z->A.length=L.length/\A[j]?=some (.cells [.sl rows rows.length cap])) (h0:Inv rows.length L [])
  (hs:∀ k A Z X (Q:AV->List Blk->Prop),k<rows.length->X.length=3->Inv (k+1) A Z->(∀ A' Z',Inv k A' Z'->Q (.bool true) (A'++(X++Z')))->Ve Tryz.prog i [rows.getD k .undef] (A++(X++Z)) Q)
  (hK:∀ A Z,Inv 0 A Z->∀ X,X.length=3->Fin L (.tup []) (A++(X++Z)) K) :
  afB 116 [.yld i,.ptr j 0] L K:=by
 have hL:=(hp _ _ _ h0).2;have hjl:j<L.length:=(ahm.1 hL).1;have hLx:∀ x:Blk,(L++[x])[j]?=some (.cells [.sl rows rows.length cap]):=fun x=>by rw [ahq hjl];exact hL
 have kk1:Hid (∀ {L:List Blk} {K:afC},K (.func 145 [.ptr L.length 0]) (L++[.cells [.sl rows rows.length cap]])->afB 117 [.sl rows rows.length cap] L K):=@hid _ (by intro L K q;exact ag1 q);replace hp:=hid hp;replace h0:=hid h0;replace hs:=hid hs;replace hK:=hid hK;refine acg KJ ?_;refine Rp (f:=145) (caps:=[.ptr (L.length+1) 0]) (fun args w=>rfl) rfl (fun fn ca cb hca hcb hfx hfy hps=>?_);have hl:∀ (A:List Blk) (hA:A.length=L.length) (a b c x y:Blk) (Z:List Blk),(A++([a,b,c]++Z))[(L++[x,y]).length]?=some c:=fun A hA a b c x y Z=>by
  rw [ahu (by simp [hA])];simp [hA]
 have hls:∀ (A:List Blk) (hA:A.length=L.length) (a b c c' x y:Blk) (Z:List Blk),(A++([a,b,c]++Z)).set (L++[x,y]).length c'=A++([a,b,c']++Z):=fun A hA a b c c' x y Z=>by
  rw [ahP _ _ (by simp [hA]),show (L++[x,y]).length - A.length=2 by simp [hA]];rfl
 refine aeZ (rows:=rows) (cap:=cap) hn (Inv:=fun k L'=>∃ A Z,L'=A++([.cells [.yld i],.cells [.sl rows rows.length cap],.lrec [(6,.func 145 [.ptr (L.length+1) 0]),(2,.ptr L.length 0),(0,.yld i),(1,.ptr j 0)] 13 fn [7,8] ca cb false]++Z)/\Inv k A Z) ?_ ?_ ?_ ?_
 ·rintro k L' ⟨A,Z,rfl,hI⟩;have hA:=(hp.out _ _ _ hI).1;refine ⟨?_,by simp [hA]⟩;rw [ahu (by omega),hA];simp
 ·exact ⟨L,[],by simp,h0.out⟩
 ·rintro k L' Q hk ⟨A,Z,rfl,hI⟩ hQ;have hA:=(hp.out _ _ _ hI).1;refine WR (hl A hA _ _ _ _ _ _) hca hcb hfx hfy rfl hps ?_;simp only [N1];replace hQ:=hid hQ;replace hI:=hid hI;have hset:∀ (A:List Blk) (hA:A.length=L.length) (a b c c':Blk) (Z:List Blk),(A++a::b::c::Z).set (L.length+2) c'=A++a::b::c'::Z:=fun A hA a b c c' Z=>by
   rw [ahP _ _ (by omega),show L.length+2 - A.length=2 by omega];rfl
  have hget:∀ (A:List Blk) (hA:A.length=L.length) (a b c:Blk) (Z:List Blk),(A++a::b::c::Z)[L.length+2]?=some c:=fun A hA a b c Z=>by
   rw [ahu (by omega),show L.length+2 - A.length=2 by omega];rfl
  have hg0:∀ (a:Blk) (Z:List Blk),(A++a::Z)[L.length]?=some a:=fun a Z=>by
   rw [ahu (by omega),show L.length - A.length=0 by omega];rfl
  replace hset:=hid hset;replace hget:=hid hget;clear hca hcb hfx hfy hps kk1 hl hls hL hLx;refine wk ?_;refine ⟨hget.out _ hA _ _ _ _,?_⟩;rw [hset.out _ hA];refine wk ?_;rw [UV];refine hs.out k A Z [.cells [.yld i],.cells [.sl rows rows.length cap],.lrec [(6,.func 145 [.ptr (L.length+1) 0]),(2,.ptr L.length 0),(0,.yld i),(1,.ptr j 0)] 13 fn [7,8] ca cb true] _ hk rfl hI.out fun A' Z' hI'=>?_
  have hA':=(hp.out _ _ _ hI').1;have hg1:∀ (a:Blk) (Z:List Blk),(A'++a::Z)[L.length]?=some a:=fun a Z=>by
   rw [ahu (by omega),show L.length - A'.length=0 by omega];rfl
  replace hI':=hid hI';clear hg0 hI hA;refine sk ?_;refine wk ?_;refine ⟨rfl,hget.out _ hA' _ _ _ _,?_⟩;rw [hset.out _ hA'];exact hQ.out _ ⟨A',Z',rfl,hI'.out⟩
 ·rintro L' ⟨A,Z,rfl,hI⟩;have hA:=(hp.out _ _ _ hI).1;refine af ⟨hl A hA _ _ _ _ _ _,?_⟩;rw [hls A hA];clear hl hls hca hcb hfx hfy hps kk1;exact ⟨.inl rfl,True,[],rfl,trivial,hK.out A Z hI _ rfl⟩
theorem Xc {p:Pth} {k:Nat} (hk:k<p.length):p.reverse.take (p.length - k)=p.reverse.take (p.length - (k+1))++[p.getD k []]:=by
 rw [show p.length - k=p.length - (k+1)+1 by omega,ahK (by rw [aim];omega)]
 congr 2
 rw [akt];simp only [ahE];rw [ahB hk];simp only [ah9]
 congr 1;omega
theorem ag5 {p:Pth} {cap:Option Nat} {j:Nat} (hn:p.length<=1000) {L:List Blk} (hj:L[j]?=some (.cells [.sl (aF p) p.length cap])) {K:afC} (h:K (.sl (aF p.reverse) p.length none) L) :
  afB 115 [.sl [] 0 (some 0),.func 116 [.ptr j 0]] L K:=by
 replace h:=hid h;have hjl:j<L.length:=(ahm.1 hj).1;refine acg jK ?_;refine Rp (f:=116) (caps:=[.ptr j 0]) (fun args w=>rfl) rfl (fun fn ca cb hca hcb hfx hfy hps=>?_);have hl:∀ (a c x:Blk) (Z:List Blk),(L++[a,c]++Z)[(L++[x]).length]?=some c:=fun a c x Z=>by
  rw [ahz,ahu (by simp)];simp
 refine ag0 (rows:=aF p) (cap:=cap) (by simp;omega) (Inv:=fun k A Z=>∃ v:AV,A=L++[.cells [v],.lrec [(6,.func 116 [.ptr j 0]),(4,.sl [] 0 (some 0)),(2,.ptr L.length 0),(0,.sl [] 0 (some 0)),(1,.func 116 [.ptr j 0])] 13 fn [7] ca cb false]/\((k=p.length/\v=.sl [] 0 (some 0))\/∃ m,v=.lsl (L.length+5+m) 0 (p.length - k) none 1/\Z[m]?=some (.cells (aF (p.reverse.take (p.length - k)))))) ?_ ?_ ?_ ?_
 ·rintro k A Z ⟨v,rfl,_⟩;refine ⟨by simp,?_⟩;rw [ahq hjl];simpa using hj
 ·exact ⟨_,by simp,.inl ⟨by simp,rfl⟩⟩
 ·rintro k A Z X Q hk hX ⟨v,rfl,hv⟩ hQ;rw [ahF] at hk;obtain ⟨x0,x1,x2,rfl⟩:∃ a b c,X=[a,b,c]:=by
   match X,hX with
   | [a,b,c],_=>exact ⟨a,b,c,rfl⟩
  obtain ⟨s,hs⟩:=aaR (p.getD k []);have er:(aF p).getD k .undef=.str s:=by rw [<- hs];simp [hk]
  have etk:=Xc hk;rw [hs] at etk;rw [er];refine WR (hl _ _ _ _) hca hcb hfx hfy rfl hps ?_;simp only [N1];replace hQ:=hid hQ;replace etk:=hid etk;clear hs er hca hcb hfx hfy hps hl h hj;have hset:∀ (a c c':Blk) (Z:List Blk),(L++a::c::Z).set (L.length+1) c'=L++([a,c']++Z):=fun a c c' Z=>by
   rw [ahP _ _ (by omega),show L.length+1 - L.length=1 by omega];rfl
  have hget:∀ (a c:Blk) (Z:List Blk),(L++a::c::Z)[L.length+1]?=some c:=fun a c Z=>by
   rw [ahu (by omega),show L.length+1 - L.length=1 by omega];rfl
  replace hset:=hid hset;replace hget:=hid hget;rcases hv with ⟨hk0,rfl⟩|⟨m,rfl,hZ⟩
  ·refine wk ?_;refine ⟨rfl,hget.out _ _ _,?_⟩;rw [hset.out];have:=hQ.out _ (Z++[.cells [.str s]]) ⟨_,rfl,.inr ⟨Z.length,rfl,by rw [etk.out,show p.length - (k+1)=0 by omega];simp⟩⟩;rw [show L.length+(Z.length+1+1+1+1+1)=L.length+5+Z.length by omega];rw [show p.length - k=1 by omega] at this;rw [ahz] at this;exact this
  ·obtain ⟨d,hd⟩:=aaR (p.length - (k+1));obtain ⟨C,hC⟩:=aaR (aF (p.reverse.take (p.length - (k+1))));have hCl:C.length=d:=by rw [<- hC,ahF,ail,aim];omega
   have hCt:List.take d C=C:=ah0 (by omega);rw [hC] at hZ;rw [hd];have hm:m<Z.length:=(ahm.1 hZ).1;have hLZ:∀ (a b c e f:Blk),(L++a::b::c::e::f::Z)[L.length+5+m]?=some (.cells C):=fun a b c e f=>by
    rw [ahu (by omega),show L.length+5+m - L.length=m+1+1+1+1+1 by omega];simpa using hZ
   have hd2:d<=1000:=by omega
   have hds:∀ (a b c e f:Blk),(L++a::b::c::e::f::Z).set (L.length+5+m) .dead=L++a::b::c::e::f::Z.set m .dead:=fun a b c e f=>by
    rw [ahP _ _ (by omega),show L.length+5+m - L.length=m+1+1+1+1+1 by omega];rfl
   refine wk ?_;refine ⟨rfl,hget.out _ _ _,?_⟩;rw [hset.out];have:=hQ.out _ (Z.set m .dead++[.cells (C++[.str s])]) ⟨_,rfl,.inr ⟨Z.length,rfl,by rw [etk.out,<- hC,ahu (by simp)];simp⟩⟩;rw [show L.length+(Z.length+1+1+1+1+1)=L.length+5+Z.length by omega];rw [show p.length - k=d+1 by omega] at this;rw [ahz] at this;exact this
 ·rintro A Z ⟨v,rfl,hv⟩ X hX;obtain ⟨x0,x1,x2,rfl⟩:∃ a b c,X=[a,b,c]:=by
   match X,hX with
   | [a,b,c],_=>exact ⟨a,b,c,rfl⟩
  have hls:∀ (a c c' x:Blk) (Z:List Blk),(L++[a,c]++Z).set (L++[x]).length c'=L++a::c'::Z:=fun a c c' x Z=>by
   rw [ahz,ahP _ _ (by simp),show (L++[x]).length - L.length=1 by simp];rfl
  refine af ⟨hl _ _ _ _,?_⟩;rw [hls];clear hls hl hca hcb hfx hfy hps hX hj;rcases hv with ⟨h0,rfl⟩|⟨m,rfl,hZ⟩
  ·have hnil:p=[]:=ahX.1 h0.symm;subst hnil;clear h0 hn;refine wk ?_;refine ay ?_;rw [show (AV.sl [] 0 (some 0)).frz=.sl (aF ([]:Pth).reverse) ([]:Pth).length none from rfl];exact ab rfl h.out
  ·rw [ajg,ah0 (by rw [aim];omega)] at hZ;rw [ajg];obtain ⟨C,hC⟩:=aaR (aF p.reverse);have hCl:C.length=p.length:=by rw [<- hC,ahF,aim]
   rw [hC] at hZ h;have hLZ:∀ (a b c e f:Blk),(L++a::b::c::e::f::Z)[L.length+5+m]?=some (.cells C):=fun a b c e f=>by
    rw [ahu (by omega),show L.length+5+m - L.length=m+1+1+1+1+1 by omega];simpa using hZ
   refine wk ?_;refine KW (i:=L.length+5+m) (l:=C) (hLZ _ _ _ _ _) ?_;rw [show (AV.lsl (L.length+5+m) 0 p.length none 1).snap (L.length+5+m) C=.sl C p.length none from by simp [AV.snap,<- hCl],ahP _ _ (by omega)];exact ab (by rw [<- hC];simp only [AV.refs];exact qn _ _) h.out
theorem af7 {p:Pth} {cap:Option Nat} {j:Nat} (hn:p.length<=1000) {L:List Blk} (hj:L[j]?=some (.cells [.sl (aF p) p.length cap])) {K:afC} (h:K (.sl (aF p.reverse) p.length none) L) :
  afB 83 [.func 116 [.ptr j 0]] L K:=by
 have kk1:Hid (∀ {K:afC},K (.sl (aF p.reverse) p.length none) L->afB 115 [.sl [] 0 (some 0),.func 116 [.ptr j 0]] L K):=@hid _ (by intro K q;exact ag5 hn hj q);replace h:=hid h;refine acg rM ?_;exact af h.out
theorem agZ {rows:List AV} {n:Nat} {cap:Option Nat} (h:K (.func 116 [.ptr L.length 0]) (L++[.cells [.sl rows n cap]])) :
  afB 84 [.sl rows n cap] L K:=by
 replace h:=hid h;refine acg Oo ?_;exact af h.out
theorem aeE {d:List Rdn} {cap:Option Nat} (hd:OkD d) (h:K (.str (aQ true d)) L) :
  afB 82 [.sl (aF (NK d)) d.length cap,.str [44]] L K:=by
 obtain ⟨q1,q2⟩:=TD hd;have hrl:∀ r∈d,(cn true r).length<=200000:=fun r hr=>OS (q2 r hr).1 (fun a ha=>((q2 r hr).2 a ha).1) (fun a ha=>((q2 r hr).2 a ha).2)
 have htl:=OK (by omega) hrl;have e:aQ true d=Lib.join (NK d) [44]:=rfl;rw [e] at h htl;rw [show d.length=(NK d).length from (be d).symm];exact Qz (by rw [be];omega) (by omega) h
theorem acd {L:List Blk} {it iv mn mi nb:Nat} {s lst a0 a2 a3:AV} {es:List (AV×AV×Nat)} {rs:List TKy} {ck ci j n1:Nat} {l1:List AV} {c1 cap:Option Nat} {id:Int} {d:List Rdn} (hd:OkD d)
  (hit:L[it]?=some (.cells [.ptr iv 0])) (hiv:L[iv]?=some (.cells [s,.lmap mn,.lmap mi,lst])) (hmn:L[mn]?=some (.map es ck)) (hf:cZ (.int .i64 id) es 0=some (some (j,.ptr nb 0)))
  (hnb:L[nb]?=some (.cells [a0,.sl l1 n1 c1,a2,a3])) (hmi:L[mi]?=some (.map (rs.map kyA) ci)) (hk:cZ (.str (aQ true d)) (rs.map kyA) 0=some none) {K:afC}
  (h:K (.tup []) ((L.set nb (.cells [dnA d,.sl (aF (NK d).reverse) d.length none,a2,a3])).set mi (.map ((rs++[(aQ true d,id,ci)]).map kyA) (ci+1))++[.cells [.sl (aF (NK d).reverse) d.length none]])) :
  afB 42 [.ptr it 0,.int .i64 id,.sl (d.map aw) d.length cap] L K:=by
 have hkf:bg .int (.int .i64 id)=true:=rfl;have hd32:=hd.len;have hni:nb≠iv:=fun e=>by rw [e,hiv] at hnb;simp at hnb
 have hnt:nb≠it:=fun e=>by rw [e,hit] at hnb;simp at hnb
 have hnm:nb≠mn:=fun e=>by rw [e,hmn] at hnb;simp at hnb
 have hnx:nb≠mi:=fun e=>by rw [e,hmi] at hnb;simp at hnb
 have hnl:nb<L.length:=(ahm.1 hnb).1;have ht1:∀ b,(L.set nb b)[it]?=some (.cells [.ptr iv 0]):=fun b=>by rw [ahL hnt];exact hit
 have hv1:∀ b,(L.set nb b)[iv]?=some (.cells [s,.lmap mn,.lmap mi,lst]):=fun b=>by rw [ahL hni];exact hiv
 have hm1:∀ b,(L.set nb b)[mi]?=some (.map (rs.map kyA) ci):=fun b=>by rw [ahL hnx];exact hmi
 have hn1:∀ b,(L.set nb b)[nb]?=some b:=fun b=>by simp [hnl]
 have hss:∀ b c,(L.set nb b).set nb c=L.set nb c:=fun b c=>List.set_set ..
 have kk1:Hid (∀ {L:List Blk} {c:Option Nat} {K:afC},K (dnA d) L->afB 25 [.sl (d.map aw) d.length cap,.sl [] 0 c] L K):=@hid _ (by intro L c K q;exact Og hd.m.b.1 hd.m.b.2 q);have kk2:Hid (Ctr Tryz.prog 81 [.sl (d.map aw) d.length cap] (.sl (aF (NK d).reverse) d.length none)):=@hid _ (by intro L K q;exact afO hd q);replace h:=hid h;refine acg Ot ?_;have hil:iv<L.length:=(ahm.1 hiv).1;have htl:it<L.length:=(ahm.1 hit).1;have hml:mi<L.length:=(ahm.1 hmi).1;have ht2:∀ b X,(L.set nb b++[X])[it]?=some (.cells [.ptr iv 0]):=fun b X=>by rw [ahq (by simpa using htl)];exact ht1 b
 have hv2:∀ b X,(L.set nb b++[X])[iv]?=some (.cells [s,.lmap mn,.lmap mi,lst]):=fun b X=>by rw [ahq (by simpa using hil)];exact hv1 b
 have hm2:∀ b X,(L.set nb b++[X])[mi]?=some (.map (rs.map kyA) ci):=fun b X=>by rw [ahq (by simpa using hml)];exact hm1 b
 have hx2:∀ b X Y,(L.set nb b++[X]).set mi Y=(L.set nb b).set mi Y++[X]:=fun b X Y=>by rw [aiK _ _ (by simpa using hml)]
 have kk3:Hid (∀ {K:afC},K (.sl (aF (NK d)) d.length none) ((L.set nb (.cells [dnA d,.sl (aF (NK d).reverse) d.length none,a2,a3]))++[.cells [.sl (aF (NK d).reverse) d.length none]])->afB 83 [.func 116 [.ptr (L.set nb (.cells [dnA d,.sl (aF (NK d).reverse) d.length none,a2,a3])).length 0]] ((L.set nb (.cells [dnA d,.sl (aF (NK d).reverse) d.length none,a2,a3]))++[.cells [.sl (aF (NK d).reverse) d.length none]]) K):=@hid _ (by
  intro K q;have hl:(NK d).reverse.length=d.length:=by rw [aim,be]
  have:=af7 (p:=(NK d).reverse) (cap:=none) (j:=(L.set nb (.cells [dnA d,.sl (aF (NK d).reverse) d.length none,a2,a3])).length) (L:=(L.set nb (.cells [dnA d,.sl (aF (NK d).reverse) d.length none,a2,a3]))++[.cells [.sl (aF (NK d).reverse) d.length none]]) (by omega) (by rw [ahu (ahn _),hl];simp) (K:=K);rw [List.reverse_reverse,hl] at this;exact this q)
 have kk4:Hid (Ctr Tryz.prog 82 [.sl (aF (NK d)) d.length none,.str [44]] (.str (aQ true d))):=@hid _ (by intro L K q;exact aeE hd q);have hkf2:bg .str (.str (aQ true d))=true:=rfl;obtain ⟨tk,htk⟩:=aaR (aQ true d);rw [htk] at kk4 hk hkf2 h;obtain ⟨pp,hpp⟩:=aaR (aF (NK d).reverse);rw [hpp] at kk3 h ⊢;have hee:(rs++[(tk,id,ci)]).map kyA=rs.map kyA++[(.str tk,.int .i64 id,ci)]:=by rw [ahN];rfl
 rw [hee] at h;clear kk1 kk2 hit hiv hmn hf hnb hmi htk hpp hee;refine ⟨_,_,(show afB 84 [.sl pp d.length none] _ _ from agZ ⟨rfl,rfl⟩),?_⟩;refine sk ?_;refine wk ?_;exact ⟨.inl rfl,True,[],rfl,trivial,af h.out⟩
def dc (kd:Int->Int) (x:aB):List AV:=[dnA x.nm,.sl (aF (pth x)) x.nm.length none,atR x.av,.int .i64 (kd x.id)]
structure bE (L:List Blk) (iv mn mi:Nat) (nb bn:Int->Nat) (ck ci:Nat) (rs:List TKy) (suf:List Rdn) (last:Int) (l lk:List aB) (kd:Int->Int):Prop where
 v:L[iv]?=some (.cells [dnA suf,.lmap mn,.lmap mi,.int .i64 last])
 n:L[mn]?=some (.map (l.map (fz nb bn)) ck)
 i:L[mi]?=some (.map (rs.map kyA) ci)
 nd:∀ x∈l,L[nb x.id]?=some (.cells (dc kd x))
 inj:∀ x∈l,∀ y∈l,nb x.id=nb y.id->x.id=y.id
 keys:(rs.map (·.1)).Nodup
 mem:∀ k id,(∃ b,(k,id,b)∈rs)↔∃ x∈lk,aQ true x.nm=k/\x.id=id
 bnd:(l.map fun x=>bn x.id).Nodup
 blt:∀ x∈l,bn x.id<ck
theorem TOk.kidsE {suf:List Rdn} {last:Int} {l:List aB} (h:TOk suf last l) {x:aB} (hx:x∈l):eX l x.id=aZ (dq l) (NK x.nm):=by unfold eX;rw [h.ent hx]
theorem bu.toK {L:List Blk} {iv mn mi:Nat} {nb bn:Int->Nat} {ck ci:Nat} {rs:List TKy} {suf:List Rdn} {last:Int} {l:List aB} (h:bu L iv mn mi nb bn ck ci rs suf last l) (ht:TOk suf last l):bE L iv mn mi nb bn ck ci rs suf last l l (fun id=>(eX l id:Nat)):=by
 have nd:∀ x∈l,L[nb x.id]?=some (.cells (dc (fun id=>(eX l id:Nat)) x)):=fun x hx=>by
  rw [h.nd x hx];unfold lv dc;dsimp only;rw [ht.kidsE hx]
 refine ⟨h.v,h.n,h.i,nd,fun x hx y hy e=>?_,h.keys,h.mem,h.bnd,h.blt⟩;have h1:=h.nd x hx;have h2:=h.nd y hy;rw [e,h2] at h1;have h3:lv l y=lv l x:=by injection h1 with h1;injection h1
 unfold lv at h3;simp only [ajv,AV.sl.injEq] at h3;have h4:aF (pth y)=aF (pth x):=h3.2.1.1;have h5:pth y=pth x:=(List.map_inj_right fun a b hab=>by injection hab).1 h4;rw [ht.byN hy hx (Wb h5)]
theorem bE.toT {L:List Blk} {iv mn mi:Nat} {nb bn:Int->Nat} {ck ci:Nat} {rs:List TKy} {suf:List Rdn} {last:Int} {l:List aB} {kd:Int->Int} (h:bE L iv mn mi nb bn ck ci rs suf last l l kd) (hk:∀ x∈l,kd x.id=(aZ (dq l) (NK x.nm):Nat)):bu L iv mn mi nb bn ck ci rs suf last l :=
 ⟨h.v,h.n,h.i,fun x hx=>by rw [h.nd x hx];unfold dc lv;rw [hk x hx],h.keys,h.mem,h.bnd,h.blt⟩
theorem bE.app {L:List Blk} {iv mn mi:Nat} {nb bn:Int->Nat} {ck ci:Nat} {rs:List TKy} {suf:List Rdn} {last:Int} {l lk:List aB} {kd:Int->Int} (h:bE L iv mn mi nb bn ck ci rs suf last l lk kd) (X:List Blk):bE (L++X) iv mn mi nb bn ck ci rs suf last l lk kd:=by
 have key:∀ {i:Nat} {b:Blk},L[i]?=some b->(L++X)[i]?=some b:=fun {i b} e=>by
  rw [ahq (ahm.1 e).1];exact e
 exact ⟨key h.v,key h.n,key h.i,fun x hx=>key (h.nd x hx),h.inj,h.keys,h.mem,h.bnd,h.blt⟩
section
variable {L:List Blk} {iv mn mi:Nat} {nb bn:Int->Nat} {ck ci:Nat} {rs:List TKy} {suf:List Rdn} {last:Int} {l lk:List aB} {kd:Int->Int}
def OfT (iv mn mi:Nat) (nb:Int->Nat) (l:List aB) (i:Nat):Prop:=i=iv\/i=mn\/i=mi\/∃ x∈l,i=nb x.id
structure aK (B:Nat->Prop) (L L':List Blk):Prop where
 len:L.length<=L'.length
 eq:∀ i,i<L.length->¬ B i->L'[i]?=L[i]?
theorem aK.refl {B:Nat->Prop} (L:List Blk):aK B L L:=⟨ahn _,fun _ _ _=>rfl⟩
theorem aK.app {B:Nat->Prop} (L X:List Blk):aK B L (L++X):=⟨by simp,fun i hi _=>ahq hi⟩
theorem aK.trans {B:Nat->Prop} {L L1 L2:List Blk} (h:aK B L L1) (g:aK B L1 L2):aK B L L2:=⟨ahV h.len g.len,fun i hi hb=>by rw [g.eq i (aiF hi h.len) hb,h.eq i hi hb]⟩
theorem aK.set {B:Nat->Prop} (L:List Blk) {j:Nat} (hj:B j) (b:Blk):aK B L (L.set j b):=⟨by simp,fun i hi hb=>ahL (fun e=>hb (by rw [<- e];exact hj))⟩
theorem aK.weak {B B':Nat->Prop} {L L':List Blk} (h:aK B L L') (hb:∀ i,i<L.length->B i->B' i):aK B' L L':=⟨h.len,fun i hi hn=>h.eq i hi fun e=>hn (hb i hi e)⟩
theorem aK.trans2 {B B':Nat->Prop} {L L1 L2:List Blk} (h:aK B L L1) (g:aK B' L1 L2) (hb:∀ i,i<L.length->B' i->B i):aK B L L2:=⟨ahV h.len g.len,fun i hi hn=>by rw [g.eq i (aiF hi h.len) (fun e=>hn (hb i hi e)),h.eq i hi hn]⟩
theorem aK.get {B:Nat->Prop} {L L':List Blk} (h:aK B L L') {i:Nat} {b:Blk} (hi:L[i]?=some b) (hb:¬ B i):L'[i]?=some b:=by rw [h.eq i (ahm.1 hi).1 hb];exact hi
theorem bE.node (h:bE L iv mn mi nb bn ck ci rs suf last l lk kd) (id:Int) :
  (ux l id=none/\cZ (.int .i64 id) (l.map (fz nb bn)) 0=some none)\/∃ x n,ux l id=some x/\x∈l/\x.id=id/\cZ (.int .i64 id) (l.map (fz nb bn)) 0=some (some (n,.ptr (nb id) 0))/\L[nb id]?=some (.cells (dc kd x))/\l.getD n default=x:=by
 rw [yx];unfold ux;rcases eY (f:=fun x:aB=>decide (x.id=id)) (l:=l) with ⟨h1,h2⟩|⟨n,h1,h2,h3⟩
 ·exact .inl ⟨h2,by rw [h1];rfl⟩
 ·right;have hm:=aiR h3;have hi:(l.getD n default).id=id:=by have:=aiQ h3;simpa using this
  refine ⟨_,n,h3,hm,hi,by rw [h1];simp,?_,rfl⟩;have:=h.nd _ hm
  rwa [hi] at this
theorem bE.look (h:bE L iv mn mi nb bn ck ci rs suf last l lk kd) (ht:TOk suf last lk) {d:List Rdn} (hd:OkD d) :
  (aY lk d=0/\atE lk d=none/\cZ (.str (aQ true d)) (rs.map kyA) 0=some none)\/∃ j,cZ (.str (aQ true d)) (rs.map kyA) 0=some (some (j,.int .i64 (aY lk d)))/\j<rs.length/\(rs.getD j default).1=aQ true d:=by
 rw [yC];rcases eY (f:=fun r:TKy=>decide (r.1=aQ true d)) (l:=rs) with ⟨h1,h2⟩|⟨n,h1,hn,h2⟩
 ·left;have hno:atE lk d=none:=yM.2 fun _ x hx e=>by
   obtain ⟨b,hb⟩:=(h.mem (aQ true x.nm) x.id).2 ⟨x,hx,rfl,rfl⟩;have:=ai2.1 h2 _ hb;simp only [decide_eq_true_eq] at this;exact this ((kI (ht.ok x hx) hd).2 e)
  exact ⟨ht.find0.2 hno,hno,by rw [h1];rfl⟩
 ·right;refine ⟨n,?_⟩;obtain ⟨⟨k,id,b⟩,hr⟩:∃ r,rs.getD n default=r:=⟨_,rfl⟩;have hm:=aiR h2;have hk:k=aQ true d:=by have:=aiQ h2;rw [hr] at this;simpa using this
  rw [hr] at hm;obtain ⟨x,hx,e1,e2⟩:=(h.mem k id).1 ⟨b,hm⟩;have:atE lk d=some x:=ht.at hx hd ((kI hd (ht.ok x hx)).1 (by rw [<- hk,e1]));rw [h1];refine ⟨by simp only [ahM,hr,aiU,aY,this,e2],hn,by rw [hr];exact hk⟩
theorem aeP {d:List Rdn} {cap:Option Nat} (hd:dnB d) (ht:TOk suf last lk) (hc:bE L iv mn mi nb bn ck ci rs suf last l lk kd) {K:afC} (h:K (.int .i64 (aY lk d)) L) :
  afB 24 [.ptr iv 0,.sl (d.map aw) d.length cap] L K:=by
 replace h:=hid h;obtain ⟨⟨s,e⟩,hse⟩:∃ q,Qw d=q:=⟨_,rfl⟩;have kk1:Hid (Ctr Tryz.prog 44 [.sl (d.map aw) d.length cap] (.tup [.str s,.int .i64 e])):=@hid _ (by intro L K q;exact Oc hd.1 hd.2 (by rw [hse];exact q));have hv:=hc.v;have hi:=hc.i;by_cases he:e=0
 ·subst he;have hod:OkD d:=by
   by_cases c:OkD d
   ·exact c
   ·exact absurd (by rw [hse]) (Qv c)
  have hs:s=aQ true d:=by have:=gg hod;rw [hse] at this;injection this
  rcases hc.look ht hod with ⟨h0,_,h1⟩|⟨j,h1,_⟩
  ·rw [<- hs] at h1;rw [h0] at h;have hkf:bg .str (.str s)=true:=rfl;clear hse hc hs;refine acg bN ?_;exact af h.out
  ·rw [<- hs] at h1;have hkf:bg .str (.str s)=true:=rfl;obtain ⟨z,hz⟩:=aaR (aY lk d);rw [hz] at h h1;clear hse hc hs hz;refine acg bN ?_;exact af h.out
 ·have h0:aY lk d=0:=by
   refine ht.find0.2 (yM.2 fun c=>?_);have:=gg c;rw [hse] at this;exact absurd (by injection this) he
  rw [h0] at h;clear hse hc;refine acg bN ?_;exact af h.out
theorem bE.kid (h:bE L iv mn mi nb bn ck ci rs suf last l lk kd) {x:aB} (hx:x∈l) (by':Int):bE (L.set (nb x.id) (.cells [dnA x.nm,.sl (aF (pth x)) x.nm.length none,atR x.av,.int .i64 (kd x.id+by')])) iv mn mi nb bn ck ci rs suf last l lk (fun i=>if i=x.id then kd i+by' else kd i):=by
 have hnx:=h.nd x hx;have hl:=(ahm.1 hnx).1;have n1:nb x.id≠iv:=fun e=>by rw [e,h.v] at hnx;simp [dc] at hnx
 have n2:nb x.id≠mn:=fun e=>by rw [e,h.n] at hnx;simp at hnx
 have n3:nb x.id≠mi:=fun e=>by rw [e,h.i] at hnx;simp at hnx
 refine ⟨by rw [ahL n1];exact h.v,by rw [ahL n2];exact h.n,by rw [ahL n3];exact h.i,fun y hy=>?_,h.inj,h.keys,h.mem,h.bnd,h.blt⟩;by_cases e:nb x.id=nb y.id
 ·have hi:=h.inj x hx y hy e;have hxy:dc kd x=dc kd y:=by
   have h2:=h.nd y hy;rw [<- e,hnx] at h2;injection h2 with h2;injection h2
  rw [<- e];simp only [hl,aiP,aho,Blk.cells.injEq];unfold dc at hxy ⊢;simp only [ajv] at hxy;dsimp only;rw [if_pos hi.symm,hxy.1,hxy.2.1,hxy.2.2.1,hi]
 ·rw [ahL e,h.nd y hy];unfold dc;dsimp only;rw [if_neg (fun e2=>e (by rw [e2]))]
theorem acL {it:Nat} {d:List Rdn} {cap:Option Nat} {b:Int} (hd:dnB d) (hne:d≠[]) (ht:TOk suf last lk) (hsub:∀ x∈lk,∃ y∈l,y.id=x.id) (hit:L[it]?=some (.cells [.ptr iv 0])) (hc:bE L iv mn mi nb bn ck ci rs suf last l lk kd) (hb : -1<=b/\b<=1) (hkd:∀ i,-10000000<=kd i/\kd i<=10000000) {K:afC}
  (h0:aY lk d.tail=0->K (.tup []) L) (h1:∀ x∈l,x.id=aY lk d.tail->K (.tup []) (L.set (nb x.id) (.cells [dnA x.nm,.sl (aF (pth x)) x.nm.length none,atR x.av,.int .i64 (kd x.id+b)]))) :
  afB 43 [.ptr it 0,.sl (d.map aw) d.length cap,.int .i64 b] L K:=by
 obtain ⟨r,d',rfl⟩:∃ r d',d=r::d':=by
  cases d with
  | nil=>exact absurd rfl hne
  | cons r d'=>exact ⟨r,d',rfl⟩
 simp only [List.tail_cons] at h0 h1;have hdt:dnB d':=⟨by have:=hd.1;simp at this;omega,fun r hr=>hd.2 r (by simp [hr])⟩;obtain ⟨z,hz⟩:=aaR (aY lk d');have kk1:Hid (∀ {c:Option Nat} {K:afC},K (.int .i64 z) L->afB 24 [.ptr iv 0,.sl (List.take d'.length (d'.map aw)) d'.length c] L K):=@hid _ (by
  intro c K q;rw [ah0 (by simp)];exact aeP hdt ht hc (by rw [hz];exact q))
 have hlen:(((r::d').length:Nat):Int)=(d'.length:Int)+1:=by simp
 have g1:(1:Int)<=((r::d').length:Int):=by rw [hlen];omega
 have g2:(r::d').length - 1=d'.length:=by simp
 have g3:List.drop 1 ((r::d').map aw)=d'.map aw:=by simp
 have hv:=hc.v;have hn:=hc.n;by_cases hz0:z=0
 ·subst hz0;replace h:=hid (h0 hz);obtain ⟨D,hD⟩:=aaR ((r::d').map aw);obtain ⟨n,hnn⟩:=aaR ((r::d').length);rw [hD] at g3 ⊢;rw [hnn] at g1 g2 ⊢;clear h0 h1 hz hc hkd hsub ht hd hdt hne hlen hD hnn;refine acg mp ?_;exact bT ⟨.inl rfl,True,[],rfl,trivial,af h.out⟩
 ·obtain ⟨y,hy⟩:∃ y,atE lk d'=some y:=by
   cases hq:atE lk d' with
   | none=>exact absurd (ht.find0.2 hq) (by rw [hz];exact hz0)
   | some y=>exact ⟨y,rfl⟩
  have hyz:y.id=z:=by rw [<- hz];unfold aY;rw [hy]
  obtain ⟨_,hyl,_⟩:=cH hy;have hzp:=(ht.ids y hyl).1;obtain ⟨x',hx',hxi⟩:=hsub y hyl;rcases hc.node z with ⟨e1,_⟩|⟨x,j,e1,hx,hxz,e2,e3,_⟩
  ·exact absurd (ai2.1 e1 x' hx') (by simp [hxi,hyz])
  have h:=h1 x hx (by rw [hxz,hz]);rw [hxz] at h;replace h:=hid h;unfold dc at e3;rw [hxz] at e3;obtain ⟨q,hq⟩:=aaR (kd z);have hqb:=hkd z;rw [hq] at h e3 hqb;have w1:IntKind.i64.wrap (q+b)=q+b:=ac (by omega) (by omega);have hkf:bg .int (.int .i64 z)=true:=rfl;have g4:(0:Int)<z:=by omega
  have g5:z > 0:=g4;obtain ⟨D,hD⟩:=aaR ((r::d').map aw);obtain ⟨n,hnn⟩:=aaR ((r::d').length);rw [hD] at g3 ⊢;rw [hnn] at g1 g2 ⊢;clear h0 h1 hz hc hkd hsub ht hd hdt hne hlen hD hnn hy hyz hyl hzp hxi hx' e1 hx hxz hq hqb;refine acg mp ?_;exact ⟨.inl rfl,True,[],rfl,trivial,af h.out⟩
end
end Go.Proofs.YtobihfefmlgaoaaGreat.Av
