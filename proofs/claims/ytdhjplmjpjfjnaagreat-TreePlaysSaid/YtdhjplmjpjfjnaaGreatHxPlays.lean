/- Joined texts of the walk, made small by a program. -/
import Derived.Test.YtdhjplmjpjfjnaaGreatHP4
import Derived.Test.YtdhjplmjpjfjnaaGreatRows
import Derived.KernelRfl
import Derived.Test.YtdhjplmjpjfjnaaGreatHCodeT1
import Derived.Test.YtdhjplmjpjfjnaaGreatHP5
import Derived.Test.YtdhjplmjpjfjnaaGreatHA1
import Derived.Test.YtdhjplmjpjfjnaaGreatHY2
import Derived.Test.YtdhjplmjpjfjnaaGreatHCodeT3
import Derived.Test.YtdhjplmjpjfjnaaGreatHTrSd
import Derived.Test.YtdhjplmjpjfjnaaGreatHYA
import Derived.Test.YtdhjplmjpjfjnaaGreatHY8
set_option linter.unusedSimpArgs false
set_option linter.unusedVariables false
set_option maxRecDepth 100000
namespace Go.Proofs.YtdhjplmjpjfjnaaGreat.Av
open Go
variable {L:List Blk} {K:AV→List Blk→Prop}
def QP:LSO:=[Am 2]
def QO:LSO:=[Aa 3 0,AN 4 3]
def QN:LSO:=[Am 2]
def QM:LSO:=[Aa 5 0,Ag 6 5,Ad 7 0 6,Ab 8 1 7,Bl 9 47 8,Aa 2 9]
def ada:bh:=⟨10,(.seq (.sreg QP [])
 (.seq (.seq (.sreg QO B4)
 (.cond (tm 4) (.seq (.sreg QN [])
 .ret)
 .skip))
 (.seq (.sreg QM B9)
 .ret))),[(.tmp 2)]⟩
attribute [push_cast] QP QO QN QM
theorem ac9:bz Tryz.prog (fun _ _=>1) 31=some ada.raw:=by kernel_rfl
def QV:LSO:=[Ac 2 0]
def QU:LSO:=[Aa 3 0,AN 4 3]
def QT:LSO:=[Ac 2 0]
def QS:LSO:=[Aa 5 0,Ag 6 5,Ad 7 1 6,Ab 8 1 7,o1 9 (.mlen (tm 8)),Aa 2 9]
def adf:bh:=⟨10,(.seq (.sreg QV [])
 (.seq (.seq (.sreg QU B4)
 (.cond (tm 4) (.seq (.sreg QT [])
 .ret)
 .skip))
 (.seq (.sreg QS B9)
 .ret))),[(.tmp 2)]⟩
attribute [push_cast] QV QU QT QS
theorem ade:bz Tryz.prog (fun _ _=>1) 23=some adf.raw:=by kernel_rfl
def QZ:LSO:=[Ac 4 0]
def QY:LSO:=[Aa 5 0,AN 6 5,Aa 7 6,.grp none 7 false
 [Ak 8 7 0,og 9 7 false (.nilchk (tm 8)),A9 10 7 1 9,A6 11 7 1 10,Ak 12 7 1,og 13 7 false (.mget .int false .nilptr (tm 11) (tm 12)),AS 14 7 13]
 15 (tm 14)]
def QX:LSO:=[Ac 4 0]
def QW:LSO:=[Aa 16 0,Ag 17 16,Ad 18 1 17,Ab 19 1 18,Aa 20 1,AK 21 19 20,Ag 22 21,Ad 23 3 22,Ab 24 1 23,Aa 4 24]
def adh:bh:=⟨25,(.seq (.sreg QZ [])
 (.seq (.seq (.sreg QY B6)
 (.cond (tm 15) (.seq (.sreg QX [])
 .ret)
 .skip))
 (.seq (.sreg QW BD)
 .ret))),[(.tmp 4)]⟩
attribute [push_cast] QZ QY QX QW
theorem adg:bz Tryz.prog (fun _ _=>1) 21=some adh.raw:=by kernel_rfl
set_option maxHeartbeats 8000000
set_option maxRecDepth 100000
theorem ae0 {l:List Atr} {k:Nat} (hk:k<l.length):(bg l).getD (k * 2+1) .undef=Od (l.getD k ([],[])).2:=by
 have h2:=congrArg (fun l=>l[1]?) (C6 hk)
 simp only [List.getElem?_take_of_lt (show 1<2 by omega),List.getElem?_drop] at h2
 rw [List.getD_eq_getElem?_getD,h2]
 rfl
end Go.Proofs.YtdhjplmjpjfjnaaGreat.Av
set_option maxRecDepth 100000
namespace Go.Proofs.YtdhjplmjpjfjnaaGreat.Av
open Go
variable {L:List Blk} {K:AV→List Blk→Prop}
def TY:LSO:=[An 4]
def TX:LSO:=[Aa 7 0,Ae 8 7,Aa 9 1,Ae 10 9,Bg 11 8 10]
def TP:LSO:=[An 4]
def TO:LSO:=[Aa 12 0,Ae 13 12,Ac 14 0]
def TN:LSO:=[Al 15 14 13]
def TM:LSO:=[Aa 16 14,Aa 5 16]
def TK:LSO:=[Aa 17 0,Aa 18 5,Aj 19 2 17 18,Ad 20 0 19,Ab 21 1 20,Aa 22 1,Aa 23 5,Aj 24 2 22 23,Ad 25 0 24,Ab 26 1 25,Bg 27 21 26,Aa 28 27,.grp none 28 false
 [Ak 29 28 0,Ak 30 28 5,og 31 28 false (.iaddr 2 (tm 29) (tm 30)),A9 32 28 1 31,A6 33 28 1 32,AI 34 28 33,Ak 35 28 1,Ak 36 28 5,og 37 28 false (.iaddr 2 (tm 35) (tm 36)),
 A9 38 28 1 37,A6 39 28 1 38,AI 40 28 39,og 41 28 false (.bin .neq (tm 34) (tm 40))]
 42 (tm 41)]
def TJ:LSO:=[An 4]
def TI:LSO:=[Aa 43 0,Aa 44 5,Aj 45 2 43 44,Ad 46 1 45,Ab 47 1 46,Ae 48 47,Ac 49 0]
def TH:LSO:=[Al 50 49 48]
def TW:LSO:=[Aa 51 49,Aa 6 51]
def TV:LSO:=[Aa 52 0,Aa 53 5,Aj 54 2 52 53,Ad 55 1 54,Ab 56 1 55,Aa 57 6,Aj 58 1 56 57,Ab 59 1 58,Aa 60 1,Aa 61 5,Aj 62 2 60 61,Ad 63 1 62,Ab 64 1 63,Aa 65 6,
 Aj 66 1 64 65,Ab 67 1 66,Bg 68 59 67]
def TU:LSO:=[An 4]
def TT:LSO:=[Ai 69 49 1,Aa 49 69]
def TS:LSO:=[Ai 70 14 1,Aa 14 70]
def TQ:LSO:=[AY 4]
def adP:bh:=⟨71,(.seq (.sreg TY [])
 (.seq (.seq (.sreg TX B7)
 (.cond (tm 11) (.seq (.sreg TP [])
 .ret)
 .skip))
 (.seq (.seq (.sreg TO BC)
 (.block 0 (.loop (.seq (.sreg TN [])
 (.seq (.cond (tm 15) .skip
 (.exit 0))
 (.seq (.block 1 (.seq (.sreg TM B4)
 (.seq (.seq (.sdreg TK [.pure,.pure,(.read 0 0),.pure,(.read 0 0),.pure,.pure,(.read 0 0),.pure,(.read 0 0),.pure,.pure,.pure,.pure,(.read 0 0),.pure,(.read 0 0),(.read 0 0),.pure,.pure,(.read 0 0),.pure,(.read 0 0),(.read 0 0)] [true,false,false,false,false,false,false,false,false,false,false,false,false])
 (.cond (tm 42) (.seq (.sreg TJ [])
 .ret)
 .skip))
 (.seq (.sreg TI BI)
 (.block 2 (.loop (.seq (.sreg TH [])
 (.seq (.cond (tm 50) .skip
 (.exit 2))
 (.seq (.block 3 (.seq (.sreg TW B4)
 (.seq (.sdreg TV [.pure,.pure,(.read 0 0),.pure,(.read 0 0),.pure,(.read 0 0),(.read 0 0),.pure,.pure,(.read 0 0),.pure,(.read 0 0),.pure,(.read 0 0),(.read 0 0)] [true,false,false,false,false,false,false,false,false,false,false,false,false,false,false,false,false])
 (.cond (tm 68) (.seq (.sreg TU [])
 .ret)
 .skip))))
 (.sreg TT B4))))))))))
 (.sreg TS B4)))))))
 (.seq (.sreg TQ [])
 .ret)))),[(.tmp 4)]⟩
attribute [push_cast] TY TX TP TO TN TM TK TJ TI TH TW TV TU TT TS TQ
theorem adO:bz Tryz.prog (fun _ _=>1) 64=some adP.raw:=by kernel_rfl
set_option maxHeartbeats 8000000
set_option maxRecDepth 100000
theorem P6 {l:List Atr} {cap cap':Option Nat} (hl:l.length≤1100000) (hz:∀ a∈l,a.2.length≤1100000) (h:K (.bool true) L) :
   ab Tryz.prog 64 [.sl (bg l) l.length cap,.sl (bg l) l.length cap'] L K:=by
 replace h:=hid h
 refine aa adO (by simp [adP]) ?_
 simp only [adP,am]
 refine wk ?_
 refine ax (fun m T' L'=>∃ k:Nat,m=l.length - k∧k≤l.length∧T'=[(14,.int .i64 (k:Int)),(13,.int .i64 l.length),(0,.sl (bg l) l.length cap),(1,.sl (bg l) l.length cap')]∧L=L') (CutS (b:=Nat.le_refl _)) ⟨0,rfl,Nat.zero_le _,rfl,rfl⟩ ?_
 rintro _ _ L' ⟨k,rfl,hk,rfl,e⟩
 subst e
 by_cases hlt:k<l.length
 · have g1:(k:Int)<(l.length:Int):=by omega
   have g2:IntKind.i64.wrap ((k:Int)+1)=(k:Int)+1:=ah (by omega) (by omega)
   have e4:k * 2+1<(bg l).length:=by rw [Eg];omega
   have e4':k * 2<(bg l).length:=by omega
   have e5:=ae0 hlt
   have e8:(bg l).getD (k * 2) .undef=.str (l.getD k ([],[])).1:=by
     have h3:=congrArg (fun l=>l[0]?) (C6 hlt)
     simp only [List.getElem?_take_of_lt (show 0<2 by omega),List.getElem?_drop,Nat.add_zero] at h3
     rw [List.getD_eq_getElem?_getD,h3];rfl
   obtain ⟨⟨nm,vs⟩,ha⟩:∃ a,l.getD k ([],[])=a:=⟨_,rfl⟩
   have hvs:=hz (nm,vs) (by rw [← ha];simp [hlt])
   simp only at hvs
   rw [ha] at e5 e8
   simp only [Od] at e5 e8
   clear ha
   refine wk ?_
   refine ax (fun m T' L'=>∃ j:Nat,m=vs.length - j∧j≤vs.length∧T'=[(49,.int .i64 (j:Int)),(48,.int .i64 vs.length),(5,.int .i64 (k:Int)),(14,.int .i64 (k:Int)),(13,.int .i64 l.length),(0,.sl (bg l) l.length cap),(1,.sl (bg l) l.length cap')]∧L=L') (CutS (b:=Nat.le_refl _)) ⟨0,rfl,Nat.zero_le _,rfl,rfl⟩ ?_
   rintro _ _ L' ⟨j,rfl,hj,rfl,e⟩
   subst e
   by_cases hjl:j<vs.length
   · have j1:(j:Int)<(vs.length:Int):=by omega
     have j2:IntKind.i64.wrap ((j:Int)+1)=(j:Int)+1:=ah (by omega) (by omega)
     obtain ⟨v,hv⟩:∃ v,vs.getD j []=v:=⟨_,rfl⟩
     have g3:(vs.map AV.str).getD j .undef=.str v:=by rw [← hv];simp [hjl]
     clear hv
     refine wk ?_
     exact ay _ _ _ (by omega) (CutL (b:=by simp)) ⟨j+1,rfl,hjl,rfl,rfl⟩
   · have j1:¬ (j:Int)<(vs.length:Int):=by omega
     refine wk ?_
     exact ay _ _ _ (by omega) (CutL (b:=by simp)) ⟨k+1,rfl,hlt,rfl,rfl⟩
 · have g1:¬ (k:Int)<(l.length:Int):=by omega
   refine wk ?_
   exact ak h.out
theorem Pf {L:List Blk} {iv mn mi:Nat} {nb bn:Int→Nat} {ck ci:Nat} {rs:List TKy} {suf:List Rdn} {last:Int} {l:List az} (hc:aR L iv mn mi nb bn ck ci rs suf last l) {id:Int} {K:AV→List Blk→Prop} (h:K (.int .i64 (gy l id:Nat)) L) :
   ab Tryz.prog 21 [.ptr iv 0,.int .i64 id] L K:=by
 have hv:=hc.v
 have hn:=hc.n
 have hkf:aT .int (.int .i64 id)=true:=rfl
 unfold gy at h
 rcases hc.node id with ⟨e1,e2⟩|⟨x,n,e1,hx,hxi,e2,e3⟩
 · rw [e1] at h
   replace h:=hid h
   clear hc e1
   refine aa adg (by simp [adh]) ?_
   simp only [adh,am]
   refine wk ?_
   exact ak h.out
 · rw [e1] at h
   simp only at h
   obtain ⟨q,hq⟩:∃ q,aO (cE l) (NK x.nm)=q:=⟨_,rfl⟩
   unfold gE at e3
   rw [hq] at h e3
   replace h:=hid h
   clear hc e1 hx hxi hq
   refine aa adg (by simp [adh]) ?_
   simp only [adh,am]
   refine wk ?_
   exact ak h.out
theorem Pe {L:List Blk} {iv mn mi:Nat} {nb bn:Int→Nat} {ck ci:Nat} {rs:List TKy} {suf:List Rdn} {last:Int} {l:List az} (hc:aR L iv mn mi nb bn ck ci rs suf last l) {K:AV→List Blk→Prop} (h:K (.int .i64 (l.length:Nat)) L) :
   ab Tryz.prog 23 [.ptr iv 0] L K:=by
 have hv:=hc.v
 have hn:=hc.n
 have e0:(l.map (em nb bn)).length=l.length:=List.length_map _
 replace h:=hid h
 clear hc
 refine aa ade (by simp [adf]) ?_
 simp only [adf,am]
 refine wk ?_
 exact ak h.out
theorem Pd {L:List Blk} {iv mn mi:Nat} {nb bn:Int→Nat} {ck ci:Nat} {rs:List TKy} {suf:List Rdn} {last:Int} {l:List az} (hd:dnB suf) (hc:aR L iv mn mi nb bn ck ci rs suf last l) {K:AV→List Blk→Prop} (h:K (dnA suf) L) :
   ab Tryz.prog 31 [.ptr iv 0] L K:=by
 have hv:=hc.v
 have kk2:Hid (∀ {c:Option Nat} {L:List Blk} {K:AV→List Blk→Prop},K (dnA suf) L→ab Tryz.prog 47 [.sl (suf.map ao) suf.length none,.sl [] 0 c] L K):=@hid _ (by intro c L K q;exact FK hd.1 hd.2 q)
 replace h:=hid h
 clear hc hd
 refine aa ac9 (by simp [ada]) ?_
 simp only [ada,am]
 refine wk ?_
 exact ak h.out
end Go.Proofs.YtdhjplmjpjfjnaaGreat.Av
set_option maxRecDepth 100000
namespace Go.Proofs.YtdhjplmjpjfjnaaGreat.Av
open Go
variable {L:List Blk} {K:AV→List Blk→Prop}
def ZS:LSO:=[An 4]
def ZR:LSO:=[Aa 9 0,Ah 10 23 9,Aa 11 1,Ag 12 11,Ad 13 1 12,Ab 14 1 13,Ae 15 14,Bg 16 10 15,Aa 17 16,.grp none 17 false
 [Ak 18 17 0,Bj 19 17 31 18,Ak 20 17 1,og 21 17 false (.nilchk (tm 20)),A9 22 17 0 21,A6 23 17 1 22,Bo 24 17 18 19 23,Bp 25 17 24]
 26 (tm 25)]
def ZP:LSO:=[An 4]
def ZO:LSO:=[Aa 27 1,Ag 28 27,Ad 29 1 28,Ab 30 1 29,Ae 31 30,Ac 32 0]
def ZN:LSO:=[Al 33 32 31]
def ZM:LSO:=[Aj 34 3 30 32,A1 35 3 34,o1 6 (.alloc [(.int .i64 0),(.sl [] 0 (some 0)),(.sl [] 0 (some 0))]),Ay 3 6 35]
def ZL:LSO:=[Aa 37 0,Ad 38 0 6,Ab 39 1 38,Aq 40 16 37 39,Aa 36 40,Ar 41 36,Aw 42 36,Aa 7 41,Aa 8 42]
def ZK:LSO:=[Aa 43 0,Ad 44 1 6,Ab 45 1 44,Aq 46 15 43 45,Ad 47 0 6,Ab 48 1 47,Bg 49 46 48,Aa 50 49,.grp none 50 false
 [Ak 51 50 7,A9 52 50 1 6,A6 53 50 1 52,Bo 54 50 18 51 53,Bp 55 50 54]
 56 (tm 55),Aa 57 56,.grp none 57 false
 [Ak 58 57 8,A9 59 57 2 6,A6 60 57 1 59,Bo 61 57 64 58 60,Bp 62 57 61]
 63 (tm 62),Aa 64 63,.grp none 64 false
 [Ak 65 64 0,A9 66 64 0 6,A6 67 64 1 66,Bo 68 64 21 65 67,Ak 69 64 1,A9 70 64 0 6,A6 71 64 1 70,Bo 72 64 61 69 71,og 73 64 false (.bin .neq (tm 68) (tm 72))]
 74 (tm 73)]
def ZJ:LSO:=[An 4]
def ZI:LSO:=[Ai 75 32 1,Aa 32 75]
def ZQ:LSO:=[AY 4]
def aeB:bh:=⟨76,(.seq (.sreg ZS [])
 (.seq (.seq (.sdreg ZR [.pure,(.read 0 0),.pure,(.read 0 0),.pure,(.read 0 0),(.read 0 0),.pure,.pure,.pure,(.read 0 0),.pure,(.read 0 0),.pure,(.read 0 0)] BD)
 (.cond (tm 26) (.seq (.sreg ZP [])
 .ret)
 .skip))
 (.seq (.seq (.sreg ZO BL)
 (.block 0 (.loop (.seq (.sreg ZN [])
 (.seq (.cond (tm 33) .skip
 (.exit 0))
 (.seq (.block 1 (.seq (.sreg ZM B5)
 (.seq (.sreg ZL [true,true,false,false,false,false,false,false,false])
 (.seq (.sdreg ZK [.pure,.pure,(.read 0 0),(.read 0 0),.pure,(.read 0 0),.pure,.pure,.pure,.pure,(.read 0 0),(.read 0 0),.pure,.pure,.pure,.pure,.pure,(.read 0 0),(.read 0 0),.pure,.pure,.pure,.pure,.pure,(.read 0 0),(.read 0 0),.pure,.pure,(.read 0 0)] [true,false,false,false,false,false,false,false,false,false,false,false,false])
 (.cond (tm 74) (.seq (.sreg ZJ [])
 .ret)
 .skip)))))
 (.sreg ZI B4)))))))
 (.seq (.sreg ZQ [])
 .ret)))),[(.tmp 4)]⟩
attribute [push_cast] ZS ZR ZP ZO ZN ZM ZL ZK ZJ ZI ZQ
theorem aeA:bz Tryz.prog (fun _ _=>1) 30=some aeB.raw:=by kernel_rfl
def Y8:LSO:=[An 4]
def Y7:LSO:=[Aa 12 1,Ae 13 12,A3 14 13 40,Aa 15 14,.grp none 15 false
 [Ak 16 15 0,og 17 15 false (.build [(.int .i64 0),(.sl [] 0 (some 0)),(.sl [] 0 (some 0)),(.sl [] 0 (some 0))] [(1,(1,(tm 16)))]),Bj 18 15 14 17,Bp 19 15 18]
 20 (tm 19)]
def YW:LSO:=[o1 21 (.call 10 []),Aa 4 21]
def YV:LSO:=[Aa 23 0,Ah 24 24 23,Aa 22 24,Ar 25 22,Aw 26 22,Aa 5 25,Aa 6 26]
def YU:LSO:=[Aa 28 0,Ah 29 25 28,Aa 27 29,Ar 30 27,Aw 31 27,Aa 7 30,Aa 8 31]
def YT:LSO:=[o1 32 (.call 10 []),AJ 33 32,Aa 34 33,.grp none 34 false
 [Ak 35 34 6,Ak 36 34 8,og 37 34 false (.bin .neq (tm 35) (tm 36))]
 38 (tm 37),Aa 39 38,.grp none 39 false
 [Ak 40 39 5,AS 41 39 40,Ak 42 39 7,AS 43 39 42,og 44 39 false (.eqk true .bool (tm 41) (tm 43))]
 45 (tm 44)]
def YS:LSO:=[An 4]
def YR:LSO:=[Aa 46 1,Ae 47 46,Ac 48 0]
def YQ:LSO:=[Al 49 48 47]
def YP:LSO:=[Aj 50 4 46 48,A1 51 4 50,o1 10 (.alloc [(.int .i64 0),(.sl [] 0 (some 0)),(.sl [] 0 (some 0)),(.sl [] 0 (some 0))]),Ay 4 10 51]
def Y6:LSO:=[A1 52 4 10,Ah 53 14 52,AJ 54 53]
def Y5:LSO:=[AY 4]
def Y4:LSO:=[Aa 55 5,AN 56 55]
def Y3:LSO:=[Aa 57 5,A1 58 4 10,Aq 59 26 57 58,A2 60 59 1]
def Y2:LSO:=[An 4]
def Y1:LSO:=[Aa 61 5,Ag 62 61,Ad 63 0 62,Ab 64 1 63,A1 65 4 10,Aq 66 27 64 65,Aa 11 66]
def Y0:LSO:=[Aa 67 11,Aa 68 7,A1 69 4 10,Aq 70 28 68 69,Bg 71 67 70,Aa 72 71,.grp none 72 false
 [Ak 73 72 5,og 74 72 false (.load true 4 (tm 10)),Bo 75 72 26 73 74,Ak 76 72 7,og 77 72 false (.load true 4 (tm 10)),Bo 78 72 29 76 77,
 og 79 72 false (.bin .neq (tm 75) (tm 78))]
 80 (tm 79),Aa 81 80,.grp none 81 false
 [Ak 82 81 5,og 83 81 false (.nilchk (tm 82)),A9 84 81 0 83,A6 85 81 1 84,Ak 86 81 7,Bo 87 81 30 85 86,Bp 88 81 87]
 89 (tm 88)]
def YZ:LSO:=[An 4]
def YY:LSO:=[Ai 90 48 1,Aa 48 90]
def YX:LSO:=[AY 4]
def aex:bh:=⟨91,(.seq (.sreg Y8 [])
 (.seq (.seq (.sreg Y7 B7)
 (.cond (tm 20) (.seq (.sreg YW B4)
 .ret)
 .skip))
 (.seq (.sreg YV BI)
 (.seq (.sreg YU BI)
 (.seq (.seq (.sreg YT B9)
 (.cond (tm 45) (.seq (.sreg YS [])
 .ret)
 .skip))
 (.seq (.seq (.sreg YR [])
 (.block 0 (.loop (.seq (.sreg YQ [])
 (.seq (.cond (tm 49) .skip
 (.exit 0))
 (.seq (.block 1 (.seq (.sreg YP B5)
 (.seq (.seq (.sreg Y6 B5)
 (.cond (tm 54) (.seq (.sreg Y5 [])
 .ret)
 .skip))
 (.seq (.seq (.sreg Y4 B4)
 (.cond (tm 56) (.seq (.seq (.sreg Y3 B6)
 (.cond (tm 60) (.seq (.sreg Y2 [])
 .ret)
 .skip))
 (.exit 1))
 .skip))
 (.seq (.sdreg Y1 [.pure,(.read 0 0),.pure,(.read 0 0),(.read 0 0)] B8)
 (.seq (.sdreg Y0 [.pure,.pure,(.read 0 0),(.read 0 0),.pure,.pure,.pure,(.read 0 0),.eff,.pure,(.read 1 0),.eff,.pure,.pure,.pure,.pure,(.read 0 0),.pure,(.read 0 0),.pure] BF)
 (.cond (tm 89) (.seq (.sreg YZ [])
 .ret)
 .skip)))))))
 (.sreg YY B4)))))))
 (.seq (.sreg YX [])
 .ret))))))),[(.tmp 4)]⟩
attribute [push_cast] Y8 Y7 YW YV YU YT YS YR YQ YP Y6 Y5 Y4 Y3 Y2 Y1 Y0 YZ YY YX
theorem aew:bz Tryz.prog (fun r i=>if r=16∧i=8 then 3 else if r=16∧i=11 then 3 else 1) 6=some aex.raw:=by kernel_rfl
section
variable {P:Program} {r:Option Nat} {w0:World} {S0:SB} {N:Nat} {own:Nat→Nat} {ops:Array Oper} {L:List Blk}
end
section
variable {P:Program} {w0:World} {S0:SB} {N:Nat} {own:Nat→Nat→Nat} {Q:Exit→Tm→List Blk→Prop} {T:Tm} {L:List Blk}
end
section
variable {P:Program} {K:Tm→List Blk→Prop} {T:Tm} {d:Option Nat} {op:LOp} {t:Nat} {b:Bool} {r:List (aj×Kd)} {M:List Blk→Prop} {Ms:List (List Blk→Prop)} {v:AV} {c:Prop}
theorem afm {n:Nat} (h:∀ M'∈(M::Ms).take (n+1),∀ L,M' L→AQv P ⟨d,op,none⟩ T L v) (hk:AGS P K r (M::Ms) (ba d v T)):AGS P K ((⟨d,op,none⟩,.read n 0)::r) (M::Ms) T:=⟨v,h,hk⟩
end
variable {L:List Blk} {K:AV→List Blk→Prop}
set_option maxHeartbeats 8000000
set_option maxRecDepth 100000
theorem afA {L:List Blk} {it iv mn mi rt:Nat} {nb bn:Int→Nat} {ck ci:Nat} {rs:List TKy} {c:Option Nat} {suf:List Rdn} {last:Int} {l:List az} (hm:Ll L it iv mn mi rt nb bn ck ci rs c suf last l) {K:AV→List Blk→Prop} (h:K (.bool true) L) :
   ab Tryz.prog 30 [.ptr iv 0,.ptr rt 0] L K:=by
 have hr:=hm.rt
 have hrl:=(List.getElem?_eq_some_iff.1 hr).1
 have hlen:=hm.len
 have hel:=io l
 have hsb:=hm.ok.sok.m.b
 have ar:∀ X:List Blk,(L++X)[rt]?=some (.cells [dnA suf,.sl (aM l) l.length c,.int .i64 last]):=fun X=>by rw [List.getElem?_append_left hrl];exact hr
 have kk1:Hid (∀ {K:AV→List Blk→Prop},K (.int .i64 (l.length:Nat)) L→ab Tryz.prog 23 [.ptr iv 0] L K):=@hid _ (by intro K q;exact Pe hm.code q)
 have kk2:Hid (∀ {K:AV→List Blk→Prop},K (dnA suf) L→ab Tryz.prog 31 [.ptr iv 0] L K):=@hid _ (by intro K q;exact Pd hsb hm.code q)
 have kk3:Hid (∀ {K:AV→List Blk→Prop},K (.bool true) L→ab Tryz.prog 18 [dnA suf,dnA suf] L K):=@hid _ (by intro K q;exact LT hsb.1 hsb.2 q)
 have hrd:=hid (fun j (hj:j<l.length)=>pO (l:=l) hj)
 obtain ⟨ECQv,hEC⟩:∃ ECQv,aM l=ECQv:=⟨_,rfl⟩
 rw [hEC] at hel ar hr hrd
 replace h:=hid h
 replace hm:=hid hm
 clear hEC hsb
 refine aa aeA (by simp [aeB]) ?_
 simp only [aeB,am]
 refine wk ?_
 clear kk1 kk2 kk3 hr
 refine ax (fun m T'' L''=>∃ (j:Nat) (X:List Blk),m=l.length - j∧j≤l.length∧T''=[(32,.int .i64 (j:Int)),(31,.int .i64 l.length),(30,.sl ECQv l.length c),(1,.ptr rt 0),(0,.ptr iv 0)]∧L''=L++X) (CutS (b:=by simp)) ⟨0,[],rfl,Nat.zero_le _,rfl,by simp⟩ ?_
 rintro _ _ _ ⟨j,X,rfl,hj,rfl,rfl⟩
 by_cases hjl:j<l.length
 · have j1:(j:Int)<(l.length:Int):=by omega
   have j2:IntKind.i64.wrap ((j:Int)+1)=(j:Int)+1:=ah (by omega) (by omega)
   have e6:=hrd.out j hjl
   have e7:j * 3+3≤ECQv.length:=by omega
   have hxl:l.getD j default∈l:=by simp [hjl]
   obtain ⟨x,hx⟩:∃ x,l.getD j default=x:=⟨_,rfl⟩
   rw [hx] at e6 hxl
   have hbx:∀ b:Blk,(L++(X++[b]))[L.length+X.length]?=some b:=fun b=>by
     rw [List.getElem?_append_right (by omega),show L.length+X.length - L.length=X.length by omega,List.getElem?_append_right (Nat.le_refl _)];simp
   have hsx:∀ b b':Blk,(L++(X++[b])).set (L.length+X.length) b'=L++(X++[b']):=fun b b'=>by
     rw [List.set_append_right _ _ (by omega),show L.length+X.length - L.length=X.length by omega,List.set_append_right _ _ (Nat.le_refl _)];simp
   have hxb:=(hm.out.ok.ok x hxl).m.b
   have hav:=hm.out.av x hxl
   have hfx:aN l x.nm=x.id:=by unfold aN;rw [hm.out.ok.at hxl (hm.out.ok.ok x hxl) rfl]
   have kk1:Hid (∀ {Y:List Blk} {K:AV→List Blk→Prop},K (.tup [dnA x.nm,.sl (bg x.av) x.av.length none]) (L++Y)→ab Tryz.prog 16 [.ptr iv 0,.int .i64 x.id] (L++Y) K):=@hid _ (by
     intro Y K q
     refine Gc hm.out.ok hm.out.av (hm.out.code.app Y) (fun e=>?_) (fun y e=>?_)
     · rw [hm.out.ok.ent hxl] at e;cases e
     · rw [hm.out.ok.ent hxl] at e;cases e;exact q)
   have kk2:Hid (∀ {Y:List Blk} {K:AV→List Blk→Prop},K (.int .i64 x.id) (L++Y)→ab Tryz.prog 15 [.ptr iv 0,dnA x.nm] (L++Y) K):=@hid _ (by
     intro Y K q;exact ov hxb hm.out.ok (hm.out.code.app Y) (by rw [hfx];exact q))
   have kk3:Hid (Ctr Tryz.prog 18 [dnA x.nm,dnA x.nm] (.bool true)):=@hid _ (by intro L K q;exact LT hxb.1 hxb.2 q)
   have kk4:Hid (Ctr Tryz.prog 64 [.sl (bg x.av) x.av.length none,.sl (bg x.av) x.av.length none] (.bool true)):=@hid _ (by intro L K q;exact P6 hav.1 hav.2 q)
   have kk5:Hid (∀ {Y:List Blk} {K:AV→List Blk→Prop},K (.int .i64 (gy l x.id:Nat)) (L++Y)→ab Tryz.prog 21 [.ptr iv 0,.int .i64 x.id] (L++Y) K):=@hid _ (by intro Y K q;exact Pf (hm.out.code.app Y) q)
   have kk6:Hid (∀ {Y:List Blk} {K:AV→List Blk→Prop},K (.int .i64 (gy l x.id:Nat)) (L++Y)→ab Tryz.prog 61 [.ptr rt 0,.int .i64 x.id] (L++Y) K):=@hid _ (by
     intro Y K q
     have hh:(L++Y)[rt]?=some (.cells [dnA suf,.sl (aM l) l.length c,.int .i64 last]):=by rw [List.getElem?_append_left hrl];exact hm.out.rt
     exact LX hm.out.ok (by omega) hh q)
   obtain ⟨kzQv,hkz⟩:∃ z,gy l x.id=z:=⟨_,rfl⟩
   rw [hkz] at kk5 kk6
   unfold zp atR at e6
   clear hm hx hxl hxb hav hfx hkz
   refine wk ?_
   exact ay _ _ _ (by omega) (CutL (b:=by simp)) ⟨j+1,_,rfl,hjl,rfl,rfl⟩
 · have hje:j=l.length:=by omega
   subst hje
   have j1:¬ (l.length:Int)<(l.length:Int):=by omega
   refine wk ?_
   exact ac rfl h.out
theorem afz {uk:Int} {dn tn v:AV} (h1:dn.one=true) (h2:tn.one=true) (h3:v.one=true) (h:K (.int .i64 1) L) :
   ab Tryz.prog 26 [.nilptr,.agg [.int .i64 uk,dn,tn,v]] L K:=by
 replace h:=hid h
 refine aa dN (by simp [bB]) ?_
 simp only [bB,am]
 refine wk ?_
 exact ac rfl h.out
theorem afw {T:Tm} {x y:Opd} {k:IntKind} {a:Int} (hx:evX T x=some (.int k a)) (hy:evX T y=some (.int k a)):ag T [] (.bin .neq x y)=some (True,.bool false,[]):=by
 simp [ag,hx,hy,bin,MA]
theorem afx {T:Tm} {x:Opd} {i:Nat} {L:List Blk} {a:AV} (hx:evD T x=some (.ptr i 0)) (hb:L[i]?=some (.cells [a])):ag T L (.load false 1 x)=some (0<1,a,L):=by
 simp [ag,hx,row,hb]
theorem afy {suf:List Rdn} (hs:Ex suf∧∀ r∈suf,∀ a∈r,(a.1.length:Int)≤140737488351232) {us:List Upd} (hn:(us.length:Int)≤9223372036854775807) (hu:∀ u∈us,Lg u) {cp:Option Nat} {K:AV→List Blk→Prop}
   (h:K (.bool true) []):ab Tryz.prog 6 [dnA suf,.sl (us.flatMap sq) us.length cp] [] K:=by
 replace h:=hid h
 have hsmall:∀ {L:List Blk} {c1 c2:Option Nat} {K:AV→List Blk→Prop},K (.bool (smU ⟨0,suf,[],[]⟩)) L→ab Tryz.prog 14 [.agg [.int .i64 0,dnA suf,.sl [] 0 c1,.sl [] 0 c2]] L K:=fun {L c1 c2 K} q=>Gh hs.1 q
 obtain ⟨sm,hsm⟩:∃ b,smU ⟨0,suf,[],[]⟩=b:=⟨_,rfl⟩
 rw [hsm] at hsmall
 have kk1:Hid (∀ {L:List Blk} {c1 c2:Option Nat} {K:AV→List Blk→Prop},K (.bool sm) L→ab Tryz.prog 14 [.agg [.int .i64 0,dnA suf,.sl [] 0 c1,.sl [] 0 c2]] L K):=@hid _ hsmall
 have kk4:Hid (Ctr Tryz.prog 10 [] (.bool true)):=@hid _ (by intro L K q;exact ME q)
 clear hsmall
 by_cases hl:40<us.length
 · have j1:(us.length:Int) > 40:=by omega
   have j2:(40:Int)<(us.length:Int):=j1
   clear hu hs hn
   refine aa aew (by simp [aex]) ?_
   simp only [aex,am]
   refine wk ?_
   exact ak h.out
 have j1:¬ (us.length:Int) > 40:=by omega
 have j2:¬ (40:Int)<(us.length:Int):=j1
 cases sm with
 | false =>
   clear hu hs hn
   refine aa aew (by simp [aex]) ?_
   simp only [aex,am]
   refine wk ?_
   exact ak h.out
 | true =>
 have hdm:dnM suf:=by
   simp only [smU,Bool.and_eq_true] at hsm
   exact Ir hsm.1 hs.2
 have hul:=IW us
 obtain ⟨US,hUS⟩:∃ US,us.flatMap sq=US:=⟨_,rfl⟩
 rw [hUS] at hul ⊢
 have hat:=hid (fun k (q:k<us.length)=>Da q)
 rw [hUS] at hat
 have hu2:=hid hu
 by_cases hok:OkD suf∧suf≠[]
 rotate_left
 · obtain ⟨z1,hz1⟩:∃ z,(∀ {K:AV→List Blk→Prop},K (.tup [.nilptr,.int .i64 z]) []→ab Tryz.prog 24 [dnA suf] [] K)∧(∀ {K:AV→List Blk→Prop},K (.tup [.nilptr,.int .i64 z]) []→ab Tryz.prog 25 [dnA suf] [] K):=by
     by_cases ho:OkD suf
     · have he:suf=[]:=by
         apply Classical.byContradiction
         exact fun e=>hok ⟨ho,e⟩
       exact ⟨2,fun {K} q=>CV hdm.b (fun e=>absurd ho e) (fun _=>q) (fun _ e=>absurd he e),fun {K} q=>Hs hdm (fun e=>absurd ho e) (fun _=>q) (fun _ e=>absurd he e)⟩
     · exact ⟨(prS suf).2,fun {K} q=>CV hdm.b (fun _=>q) (fun e=>absurd (e ▸ (by rfl:(prS []).2=0)) ho) (fun e=>absurd e ho),fun {K} q=>Hs hdm (fun _=>q) (fun e=>absurd (e ▸ (by rfl:(prS []).2=0)) ho) (fun e=>absurd e ho)⟩
   have kk2:Hid (∀ {K:AV→List Blk→Prop},K (.tup [.nilptr,.int .i64 z1]) []→ab Tryz.prog 24 [dnA suf] [] K):=@hid _ (fun {K} q=>hz1.1 q)
   have kk3:Hid (∀ {K:AV→List Blk→Prop},K (.tup [.nilptr,.int .i64 z1]) []→ab Tryz.prog 25 [dnA suf] [] K):=@hid _ (fun {K} q=>hz1.2 q)
   have j5:(!decide (z1=z1))=false:=by simp
   clear hz1 hok hsm hs hu hdm hUS
   refine aa aew (by simp [aex]) ?_
   simp only [aex,am]
   refine wk ?_
   clear kk1 kk2 kk3 kk4
   refine ax (fun m T' L'=>∃ j:Nat,m=us.length - j∧j≤us.length∧T'=[(48,.int .i64 (j:Int)),(47,.int .i64 us.length),(46,.sl US us.length cp),(7,.nilptr),(5,.nilptr)]) (CutS (b:=Nat.le_refl _)) ⟨0,rfl,Nat.zero_le _,rfl⟩ ?_
   rintro _ _ L' ⟨j,rfl,hj,rfl⟩
   by_cases hjl:j<us.length
   · have j3:(j:Int)<(us.length:Int):=by omega
     have j4:IntKind.i64.wrap ((j:Int)+1)=(j:Int)+1:=ah (by omega) (by omega)
     have e4:j * 4+4≤US.length:=by omega
     have e5:=hat.out j hjl
     have hq:=hu2.out (us.getD j IA) (by simp [hjl])
     obtain ⟨u,hu⟩:∃ u,us.getD j IA=u:=⟨_,rfl⟩
     rw [hu] at e5 hq
     obtain ⟨sm,hsm⟩:∃ b,smU u=b:=⟨_,rfl⟩
     have kk1:Hid (Ctr Tryz.prog 14 [.agg (sq u)] (.bool sm)):=@hid _ (by intro L K q;exact Gg hq.dn.1 hq.to.1 hq.attrs (fun a ha=>(hq.names a ha).2) (by rw [hsm];exact q))
     obtain ⟨uk,ud,ut,ua⟩:=u
     simp only [sq] at e5 kk1
     have kk2:Hid (Ctr Tryz.prog 26 [.nilptr,.agg [.int .i64 uk,dnA ud,dnA ut,.sl (bg ua) ua.length none]] (.int .i64 1)):=@hid _ (by intro L K q;exact afz rfl rfl rfl q)
     clear hu hq hsm
     cases sm with
     | false =>
       refine wk ?_
       exact ac (L0:=[]) (L2:=_) rfl h.out
     | true =>
       refine wk ?_
       exact ay _ _ _ (by omega) (CutL (b:=by simp)) ⟨j+1,rfl,hjl,rfl⟩
   · have hje:j=us.length:=by omega
     subst hje
     have j3:¬ (us.length:Int)<(us.length:Int):=by omega
     refine wk ?_
     exact ac (L2:=L') rfl h.out
 obtain ⟨ho,hne⟩:=hok
 have kT:Hid (∀ {K:AV→List Blk→Prop},(∀ L1 it iv mn mi,Hid ((∃ nb bn ck ci rs,aR L1 iv mn mi nb bn ck ci rs suf 0 [])∧L1[it]?=some (.cells [.ptr iv 0])∧mn≠mi)→K (.tup [.ptr it 0,.int .i64 0]) L1)→ab Tryz.prog 24 [dnA suf] [] K):=@hid _ (by
   intro K q
   exact CV hdm.b (fun e=>absurd ho e) (fun e=>absurd e hne) fun _ _=>q _ _ 2 0 1 (hid ⟨⟨_,_,_,_,_,aR.start [] suf⟩,rfl,by omega⟩))
 have kR:Hid (∀ {L1:List Blk} {K:AV→List Blk→Prop},(∀ L2 rt,Hid (L2=L1++[.cells [dnA suf,.sl [] 0 (some 0),.int .i64 0]]∧rt=L1.length)→K (.tup [.ptr rt 0,.int .i64 0]) L2)→ab Tryz.prog 25 [dnA suf] L1 K):=@hid _ (by
   intro L1 K q
   exact Hs hdm (fun e=>absurd ho e) (fun e=>absurd e hne) fun _ _=>q _ _ (hid ⟨rfl,rfl⟩))
 have htk:Hid (TOk suf 0 ([]:List az)):=hid (TOk.nil ho hne)
 clear hu hsm hs hdm hUS ho hne
 refine aa aew (by simp [aex]) ?_
 simp only [aex,am]
 obtain ⟨sp,hsp⟩:∃ sp,Y0=sp:=⟨_,rfl⟩
 rw [hsp]
 replace hsp:=hid hsp
 refine wk ?_
 refine kT.out fun L1 it iv mn mi hT=>?_
 refine wk ?_
 refine kR.out fun L2 rt hR=>?_
 clear kT kR
 have hM0:Hid (∃ nb bn ck ci rs c last l,Ll L2 it iv mn mi rt nb bn ck ci rs c suf last l∧last≤(0:Nat)∧l.length≤0):=hid (by
   obtain ⟨⟨nb,bn,ck,ci,rs,hc⟩,hi,hne⟩:=hT.out
   obtain ⟨rfl,rfl⟩:=hR.out
   refine ⟨nb,bn,ck,ci,rs,some 0,0,[],⟨htk.out,hc.app _,?_,?_,hne,Int.le_refl _,by decide,by simp,by simp⟩,Int.le_refl _,Nat.le_refl _⟩
   · rw [List.getElem?_append_left (List.getElem?_eq_some_iff.1 hi).1];exact hi
   · rw [List.getElem?_append_right (Nat.le_refl _)];simp [aM])
 clear hT hR kk1 htk
 refine wk ?_
 clear kk4
 refine ax (fun m T' L'=>∃ j:Nat,m=us.length - j∧j≤us.length∧Hid (L2.length≤L'.length)∧Hid (∃ nb bn ck ci rs c last l,Ll L' it iv mn mi rt nb bn ck ci rs c suf last l∧last≤(j:Int)∧l.length≤j)∧T'=[(48,.int .i64 (j:Int)),(47,.int .i64 us.length),(46,.sl US us.length cp),(7,.ptr rt 0),(5,.ptr it 0)]) (CutS (b:=Nat.le_refl _)) ⟨0,rfl,Nat.zero_le _,hid (Nat.le_refl _),hM0,rfl⟩ ?_
 rintro _ _ L' ⟨j,rfl,hj,hle,hM,rfl⟩
 by_cases hjl:j<us.length
 · have j3:(j:Int)<(us.length:Int):=by omega
   have j4:IntKind.i64.wrap ((j:Int)+1)=(j:Int)+1:=ah (by omega) (by omega)
   have e4:j * 4+4≤US.length:=by omega
   have e5:=hat.out j hjl
   have hq:=hu2.out (us.getD j IA) (by simp [hjl])
   obtain ⟨u,hu⟩:∃ u,us.getD j IA=u:=⟨_,rfl⟩
   rw [hu] at e5 hq
   obtain ⟨sm,hsm⟩:∃ b,smU u=b:=⟨_,rfl⟩
   have kk1:Hid (Ctr Tryz.prog 14 [.agg (sq u)] (.bool sm)):=@hid _ (by intro L K q;exact Gg hq.dn.1 hq.to.1 hq.attrs (fun a ha=>(hq.names a ha).2) (by rw [hsm];exact q))
   obtain ⟨uk,ud,ut,ua⟩:=u
   simp only [sq] at e5 kk1
   clear hu
   obtain ⟨nb,bn,ck,ci,rs,c,last,l,hm,hla,hll⟩:=hM.out
   cases sm with
   | false =>
     have hsp:=hsp.out
     subst hsp
     clear hM hm hu2 hsm hq
     refine wk ?_
     exact ac (L0:=[]) (L2:=_) rfl h.out
   | true =>
   obtain ⟨hdn,htn,hav⟩:=Oc hq hsm
   have hl1:=hm.l1
   have hln:=hm.len
   obtain ⟨z,hz⟩:∃ z,b8 suf l uk ud ut=z:=⟨_,rfl⟩
   have kk2:Hid (∀ {X:List Blk} {K:AV→List Blk→Prop},K (.int .i64 z) (L'++X)→ab Tryz.prog 27 [.ptr iv 0,.agg [.int .i64 uk,dnA ud,dnA ut,.sl (bg ua) ua.length none]] (L'++X) K):=@hid _ (by
     intro X K q;exact xO hm.ok (by omega) (hm.code.app X) hdn.b htn.b (by rw [hz];exact q))
   have hia:∀ X:List Blk,(L'++X)[it]?=some (.cells [.ptr iv 0]):=fun X=>by rw [List.getElem?_append_left (List.getElem?_eq_some_iff.1 hm.it).1];exact hm.it
   have hMb:=hid hm
   clear hm hM hq
   refine wk ?_
   have hm:=hMb.out
   obtain ⟨Lb,hLb⟩:∃ Lb,L'++[Blk.cells [.int .i64 uk,dnA ud,dnA ut,.sl (bg ua) ua.length none]]=Lb:=⟨_,rfl⟩
   rw [hLb]
   have hbox:Lb[L'.length]?=some (.cells [.int .i64 uk,dnA ud,dnA ut,.sl (bg ua) ua.length none]):=by rw [← hLb];simp
   have hcb:aR Lb iv mn mi nb bn ck ci rs suf last l:=by rw [← hLb];exact hm.code.app _
   have hib:Lb[it]?=some (.cells [.ptr iv 0]):=by rw [← hLb];exact hia _
   have hrb:Lb[rt]?=some (.cells [dnA suf,.sl (aM l) l.length c,.int .i64 last]):=by rw [← hLb,List.getElem?_append_left (List.getElem?_eq_some_iff.1 hm.rt).1];exact hm.rt
   have hlb:L2.length≤Lb.length:=by
     have:=hle.out
     rw [← hLb];simp;omega
   have hsp:=hsp.out
   subst hsp
   have hD:∀ L3,L3=Lb→ab Tryz.prog 26 [.ptr it 0,.agg [.int .i64 uk,dnA ud,dnA ut,.sl (bg ua) ua.length none]] L3 fun av L4=>av=.int .i64 z∧(L4[L'.length]?=some (.cells [.int .i64 uk,dnA ud,dnA ut,.sl (bg ua) ua.length none])∧Lb.length≤L4.length∧L4[it]?=some (.cells [.ptr iv 0])∧L4[rt]?=some (.cells [dnA suf,.sl (aM l) l.length c,.int .i64 last])∧∃ nb bn ck ci rs,aR L4 iv mn mi nb bn ck ci rs suf (doT suf l last uk ud ut ua).2 (doT suf l last uk ud ut ua).1):=by
     intro L3 h3
     rw [h3]
     refine MS hm.ok hm.ne (by omega) hm.l0 (by omega) hib hcb hdn.b htn.b hav.1 hav.2 fun L6 nb' bn' ck' ci' rs' q1 q2 q3=>?_
     exact ⟨by rw [hz],q3.get hbox (hcb.noOf hbox (.inr ⟨_,_,_,rfl⟩)),q3.len,q2,q3.get hrb (hcb.noOf hrb (.inl (by simp))),nb',bn',ck',ci',rs',q1⟩
   have hR:∀ L4,(L4[L'.length]?=some (.cells [.int .i64 uk,dnA ud,dnA ut,.sl (bg ua) ua.length none])∧Lb.length≤L4.length∧L4[it]?=some (.cells [.ptr iv 0])∧L4[rt]?=some (.cells [dnA suf,.sl (aM l) l.length c,.int .i64 last])∧∃ nb bn ck ci rs,aR L4 iv mn mi nb bn ck ci rs suf (doT suf l last uk ud ut ua).2 (doT suf l last uk ud ut ua).1)→ab Tryz.prog 29 [.ptr rt 0,.agg [.int .i64 uk,dnA ud,dnA ut,.sl (bg ua) ua.length none]] L4 fun av L5=>av=.int .i64 z∧((∃ nb bn ck ci rs c last l,Ll L5 it iv mn mi rt nb bn ck ci rs c suf last l∧last≤((j+1:Nat):Int)∧l.length≤j+1)∧L2.length≤L5.length∧L5[it]?=some (.cells [.ptr iv 0])):=by
     rintro L4 ⟨g1,g2,g4,g5,nb',bn',ck',ci',rs',g6⟩
     obtain ⟨d1,d2,d3,d4⟩:=hm.ok.done hm.l0 uk ud ut ua
     refine Oe hm.ok (by omega) hm.l0 (by omega) g5 hdn htn hav.1 hav.2 fun L5 c' r1 r2=>?_
     have hi5:L5[it]?=some (.cells [.ptr iv 0]):=r2.get g4 fun e=>by
       rw [e,g5] at g4;simp at g4
     exact ⟨by rw [hz],⟨nb',bn',ck',ci',rs',c',_,_,⟨d1,g6.keep g5 rfl r2,hi5,r1,hm.ne,Int.le_trans hm.l0 d2,by omega,by omega,NJ hm.av hav⟩,by omega,by omega⟩,by have a2:=r2.len;omega,hi5⟩
   have hA:∀ L3,L3=Lb→ab Tryz.prog 28 [.ptr rt 0,.agg [.int .i64 uk,dnA ud,dnA ut,.sl (bg ua) ua.length none]] L3 fun av L4=>av=.int .i64 z∧L4=L3:=by
     rintro L3 h3
     rw [h3]
     exact Iu hm.ok (by omega) hrb hdn htn ⟨by rw [hz],rfl⟩
   refine JW ?_
   refine Es rfl rfl trivial ?_
   refine Es rfl rfl trivial ?_
   refine afm (fun M' hM' L3 hL3=>Ep (DT (i:=L'.length) rfl (a:=.int .i64 uk) (b:=dnA ud) (c:=dnA ut) (d:=.sl (bg ua) ua.length none) ?_) (by decide)) ?_
   · simp only [List.take_succ_cons,List.take_zero,List.mem_singleton] at hM'
     subst hM'
     rw [hL3];exact hbox
   refine afm (v:=.int .i64 z) (fun M' hM' L3 hL3=>Lv rfl (hA L3 ?_)) ?_
   · simp only [List.take_succ_cons,List.take_zero,List.mem_singleton] at hM'
     subst hM'
     exact hL3
   refine Es (v:=.bool false) rfl (afw rfl rfl) trivial ?_
   refine Es rfl rfl trivial ?_
   refine Er rfl rfl rfl trivial ?_
   refine F7 rfl (fun M' hM' L3 hL3=>Ep (DT (i:=L'.length) rfl (a:=.int .i64 uk) (b:=dnA ud) (c:=dnA ut) (d:=.sl (bg ua) ua.length none) ?_) (by decide)) ?_
   · simp only [List.take_succ_cons,List.take_zero,List.mem_singleton] at hM'
     subst hM'
     rw [hL3];exact hbox
   refine Oa rfl rfl hD ?_
   refine Er rfl rfl rfl trivial ?_
   refine F7 rfl (fun M' hM' L3 hL3=>Ep (DT (i:=L'.length) rfl (a:=.int .i64 uk) (b:=dnA ud) (c:=dnA ut) (d:=.sl (bg ua) ua.length none) ?_) (by decide)) ?_
   · simp only [List.take_succ_cons,List.take_zero,List.mem_cons,List.not_mem_nil,or_false] at hM'
     rcases hM' with e|e
     · subst e;exact hL3.1
     · subst e;rw [hL3];exact hbox
   refine Oa rfl rfl hR ?_
   refine Er (v:=.bool false) rfl rfl (afw rfl rfl) trivial ?_
   refine Es rfl rfl trivial ?_
   refine Es rfl rfl trivial ?_
   refine Er rfl rfl rfl trivial ?_
   refine F7 (v:=.ptr it 0) rfl (fun M' hM' L3 hL3=>(Ig rfl rfl trivial).2 _) ?_
   refine Er rfl rfl rfl trivial ?_
   refine F7 (v:=.ptr iv 0) rfl (fun M' hM' L3 hL3=>Ep (afx rfl ?_) (by decide)) ?_
   · simp only [List.take_succ_cons,List.take_zero,List.mem_singleton] at hM'
     subst hM'
     exact hL3.2.2
   refine Er rfl rfl rfl trivial ?_
   intro L5 hL5
   obtain ⟨hM5,hl5,hi5⟩:=hL5
   have kk1:Hid (∀ {K:AV→List Blk→Prop},K (.bool true) L5→ab Tryz.prog 30 [.ptr iv 0,.ptr rt 0] L5 K):=@hid _ (by
     intro K q
     obtain ⟨nb,bn,ck,ci,rs,c,last,l,hm5,_,_⟩:=hM5
     exact afA hm5 q)
   replace hM5:=hid hM5
   clear kk2 hD hR hA hz hbox hLb hav htn hdn hsm hm hMb hla hll hu2 hat hM0 hib hrb hcb hia hlb hl1 hln
   simp only [Y0,SOp.flatL,SOp.flat,List.cons_append,List.nil_append,List.append_nil,List.length_cons,List.length_nil,List.drop_succ_cons,List.drop_zero,List.drop]
   refine sk ?_
   refine wk ?_
   exact ay _ _ _ (by omega) (CutL (b:=hl5)) ⟨j+1,rfl,hjl,hid hl5,hM5,rfl⟩
 · have hje:j=us.length:=by omega
   subst hje
   have j3:¬ (us.length:Int)<(us.length:Int):=by omega
   refine wk ?_
   exact ac (L2:=L') rfl h.out
end Go.Proofs.YtdhjplmjpjfjnaaGreat.Av
