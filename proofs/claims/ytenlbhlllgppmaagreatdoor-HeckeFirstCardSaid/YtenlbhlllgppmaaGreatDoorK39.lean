/- Translate in all cases, for a list of any size; what the law PathsTwice comes to, plain. -/
import Derived.Test.YtenlbhlllgppmaaGreatDoorK37
import Derived.Test.YtenlbhlllgppmaaGreatDoorK26
import Derived.Test.YtenlbhlllgppmaaGreatDoorK21
import Derived.Test.YtenlbhlllgppmaaGreatDoorK34
import Derived.Test.YtenlbhlllgppmaaGreatDoorK22
import Derived.Test.YtenlbhlllgppmaaGreatDoorK29
import Derived.Test.YtenlbhlllgppmaaGreatDoorK13
import Derived.Test.YtenlbhlllgppmaaGreatDoorK36
import Derived.Test.YtenlbhlllgppmaaGreatDoorK19
import Derived.Test.YtenlbhlllgppmaaGreatDoorK38
import Derived.Test.YtenlbhlllgppmaaGreatDoorK24
set_option linter.unusedSimpArgs false
set_option maxRecDepth 100000
set_option maxHeartbeats 8000000
namespace Go.Proofs.YtenlbhlllgppmaaGreatDoor
open Go.RowKit Eli
theorem RetP.ok {w w':World} {e:Ending} {n:Nat} {f:Nat→Rat} {X Y:Int×Int} {er:Int} (h:RetP w w' e n f X Y er):
  ∃ pT cT,e=.returned (.tuple #[.agg #[.slice pT (if er=0 then n else 0) cT,.int .i64 ((if er=0 then X else(0,0)).1),.int .i64 ((if er=0 then X else(0,0)).2),.int .i64 ((if er=0 then Y else(0,0)).1),.int .i64 ((if er=0 then Y else(0,0)).2)],.int .i64 er])∧QL (fun j=>IsQ (f j)) w' (.slice pT (if er=0 then n else 0) cT) (if er=0 then n else 0)∧∀ a,pT=some a→w.heap.size≤a.block:=by
 rcases h with⟨h,he⟩ |⟨h,g,cap,he,hg,hr⟩
 ·simp only[if_neg h]
  exact⟨none,0,he,.inl ⟨rfl,_,_,rfl⟩,fun a ha=>by cases ha⟩
 ·subst h
  simp only[if_true]
  exact⟨_,cap,he,hr.ql cap,fun a ha=>by injection ha with ha;subst ha;exact hg⟩
structure ModR (w:World) (M n wt:Nat) (D:Int) (F:List Nat) (C:Nat) (X:Nat→Nat→Rat):Prop where
 check:Pl.check n ((wt:Int)+2) D=0
 cnt:cntF n wt=C
 len:F.length≤72
 mod:ModAt w M w.heap.size n ((wt:Int)+2) D F C X
 size:∀ j f,j<C→f∈F→hq (X j f)≤10000
 rel:∀ f,f∈F→RelZ n wt D (fun j=>X j f)
theorem ModR.keep {w w':World} {M n wt:Nat} {D:Int} {F:List Nat} {C:Nat} {X:Nat→Nat→Rat} (h:ModR w M n wt D F C X) (hb:Below w.heap.size w w'):ModR w' M n wt D F C X:=
 ⟨h.check,h.cnt,h.len,(h.mod.keep (Nat.le_refl _) hb).up hb.size,h.size,h.rel⟩
def hkM (n wt:Nat) (D:Int) (F:List Nat) (C:Nat) (X:Nat→Nat→Rat) (gs:List M4) (i k:Nat):Rat:=
 vecS (fun j=>(hkV n wt (pts n (n*n)) (plAll n D (pts n (n*n)) n) (F.getD i 0) gs gs.length j:Rat)) X C (F.getD k 0)
theorem c_act {M n wt:Nat} {D:Int} {F:List Nat} {C:Nat} {X:Nat→Nat→Rat} (gs:List M4) (v:Value) (w:World) (hT:Tab w) (hm:ModR w M n wt D F C X) (hlow:∀ f,f∈F→f<C) (hF0:0<F.length) (hC:C≤72) (hv:MatsIn w v gs) (hgs:gs.length≤4096) (hgi:∀ t,t<gs.length→GIn (gs.getD t (0,0,0,0))):
  Calls Tryz.prog 53 #[.pointer (some ⟨M,0,none⟩),v] w fun e w'=>(∃ p c,e=.returned (.tuple #[.agg #[.int .i64 F.length,.int .i64 F.length,.slice p (F.length*F.length) c],.int .i64 0])∧QL (fun j=>IsQ (hkM n wt D F C X gs (j / F.length) (j % F.length))) w' (.slice p (F.length*F.length) c) (F.length*F.length))∧Below w.heap.size w w':=by
 obtain⟨gL,cL,rfl,hgL,hmats⟩:=hv
 obtain⟨w0,hw0⟩:∃ w0,w.alloc (.cells #[.int .i64 0,.int .i64 0,.slice none 0 0] 32)=w0:=⟨_,rfl⟩
 obtain⟨X0,hb0⟩:=box1 w #[.int .i64 0,.int .i64 0,.slice none 0 0] 32
 rw[hw0]at X0 hb0
 have hck:=hm.check
 have hcnt:=hm.cnt
 have HM0:=Kh (hm.keep hb0)
 have HT0:=Kh (hT.below hb0)
 have HX0:=Kh X0
 have HB0:=Kh hb0
 obtain⟨gr,hgr⟩:∃ x,w.heap.size=x:=⟨_,rfl⟩
 have HGR:=Kh hgr
 have HMT:=Kh (show ∀ W,Below w0.heap.size w0 W→∀ t,t<gs.length→(W.cell? ⟨gL,t*4,none⟩=some (.int .i64 (gs.getD t (0,0,0,0)).1)∧W.cell? ⟨gL,t*4+1,none⟩=some (.int .i64 (gs.getD t (0,0,0,0)).2.1)∧W.cell? ⟨gL,t*4+2,none⟩=some (.int .i64 (gs.getD t (0,0,0,0)).2.2.1)∧W.cell? ⟨gL,t*4+3,none⟩=some (.int .i64 (gs.getD t (0,0,0,0)).2.2.2))from fun W hb t ht=>by
  obtain⟨m0,m1,m2,m3⟩:=hmats t ht
  have hbw:=hb0.trans (hb.mono hb0.size)
  exact⟨(hbw.cell (p:=⟨gL,t*4,none⟩) hgL).trans m0,(hbw.cell (p:=⟨gL,t*4+1,none⟩) hgL).trans m1,(hbw.cell (p:=⟨gL,t*4+2,none⟩) hgL).trans m2,(hbw.cell (p:=⟨gL,t*4+3,none⟩) hgL).trans m3⟩)
 have HFL:=Kh hm.len
 have HSP:=Kh (fun W (hb:Below w0.heap.size w0 W)=>c_Spec M W.heap.size n ((wt:Int)+2) D F C X W ((hm.keep hb0).keep hb).mod (Nat.le_refl _))
 have HDM:=Kh (fun W (hb:Below w0.heap.size w0 W)=>c_Dim M W.heap.size n ((wt:Int)+2) D F C X W ((hm.keep hb0).keep hb).mod)
 have HFR:=Kh (fun W (hb:Below w0.heap.size w0 W)=>c_Free M W.heap.size n ((wt:Int)+2) D F C X W ((hm.keep hb0).keep hb).mod (by have:=hm.len;omega))
 have HCN:=Kh (fun W (hb:Below w0.heap.size w0 W)=>c_MCountH n wt D W ((hT.below hb0).below hb) hck)
 have HMA:=Kh (fun W (hb:Below w0.heap.size w0 W) (r:Nat) (a b c d:Int) (hr:r<cntF n wt) (hg:GIn (a,b,c,d))=>c_MApply n wt D r a b c d W ((hT.below hb0).below hb) hck hr hg.1.1 hg.1.2 hg.2.1.1 hg.2.1.2 hg.2.2.1.1 hg.2.2.1.2 hg.2.2.2.1 hg.2.2.2.2)
 have HVE:=Kh (fun W (hb:Below w0.heap.size w0 W) (vv:Value) (V:Nat→Rat) (hqq:QL (fun j=>IsQ (V j)) W vv C) (hC0:0<C) (hV:∀ j,j<C→hq (V j)≤10000)=>c_Vector M W.heap.size n ((wt:Int)+2) D F C X vv V W ((hm.keep hb0).keep hb).mod (Nat.le_refl _) hqq hC0 (by omega) (by have:=hm.len;omega) hV (fun j f h1 h2=>hm.size j f h1 h2))
 obtain⟨L,hL⟩:∃ L,pts n (n*n)=L:=⟨_,rfl⟩
 obtain⟨f,hf⟩:∃ f,plAll n D L n=f:=⟨_,rfl⟩
 have hTO:TabOk L.length f:=by rw[← hf,← hL];exact plAll_ok (kro3 D) n
 have hwt:wt≤22:=by have:=(Pl.check_ok hck).2.1;omega
 have HND:=Kh (fun r t k (ht:t≤gs.length)=>hkV_nd (n:=n) (wt:=wt) (L:=L) (f:=f) (r:=r) hTO hgi t k ht)
 have HMD:=Kh (fun r t k (ht:t<gs.length)=>mvd_nd (n:=n) (w:=wt) (i:=r / L.length) (j:=r % L.length) (g:=gs.getD t (0,0,0,0)) hTO (hgi t ht) k)
 have HKM:=Kh (show ∀ i k,hkM n wt D F C X gs i k=vecS (fun j=>(hkV n wt L f (F.getD i 0) gs gs.length j:Rat)) X C (F.getD k 0)from fun i k=>by unfold hkM;rw[hL,hf])
 have HHS:=Kh (show ∀ r t,hkV n wt L f r gs (t+1)=fun k=>hkV n wt L f r gs t k+mvd n wt L f (r / L.length) (r % L.length) (gs.getD t (0,0,0,0)) k from fun r t=>rfl)
 have HH0:=Kh (show ∀ r,hkV n wt L f r gs 0=fun _=>0 from fun r=>rfl)
 rw[hL,hf]at HMA
 rw[hcnt]at HMA HCN
 have HFL0:=Kh (show ∀ i,i<F.length→F.getD i 0<C from fun i hi=>hlow _ (getD_mem hi))
 have hC0:0<C:=by have:=HFL0.out 0 hF0;omega
 have HGI:=Kh hgi
 have HXS:=Kh (show ∀ j k,j<C→k<F.length→hq (X j (F.getD k 0))≤10000 from fun j k hj hk=>hm.size j _ hj (getD_mem hk))
 have hmkZ:=makeZ C (by omega)
 have hmkQ:=makeQ C (by omega)
 have hmkR:=makeRC F.length (by have:=hm.len;omega)
 clear hT hm hlow hgL hmats hck hcnt hgi hTO hL hf X0 hb0 hgr
 go_enter Tryz.func53,Tryz.ntmps53
 go_wp2_with fail
 have hz0:=Below.refl w0.heap.size w0
 refine(HSP.out w0 hz0).mono ?_
 rintro e w1 ⟨rfl,hb1⟩
 have HB1:=Kh hb1
 clear hb1 hw0 hz0
 go_wp2_with fail
 refine(HCN.out w1 HB1.out).mono ?_
 rintro e w2 ⟨rfl,hb2⟩
 have HB2:=bt HB1 hb2
 clear hb2 HB1
 go_wp2_with fail
 refine(HDM.out w2 HB2.out).mono ?_
 rintro e w' ⟨rfl,hw'⟩
 obtain rfl:w2=w':=hw'.symm
 clear hw'
 obtain⟨w3,hw3⟩:∃ w3,w2.alloc (.cells (madeCells #[.slice none 0 0] F.length) 30)=w3:=⟨_,rfl⟩
 obtain⟨RM,hRM⟩:∃ RM:Nat→Nat→Rat,hkM n wt D F C X gs=RM:=⟨_,rfl⟩
 have hro:=RowsOwn.made RM F.length F.length w2 w0.heap.size HB2.out.size (by have:=HFL.out;omega)
 have hb3:Below w2.heap.size w2 w3:=hw3▸(Below.refl _ _).alloc (Nat.le_refl _) _
 rw[hw3]at hro
 have HRO:=Kh hro
 have HRME:=Kh hRM
 have HB3:=bt HB2 hb3
 obtain⟨g8,hg8⟩:∃ x,w2.heap.size=x:=⟨_,rfl⟩
 rw[hg8]at HRO
 clear hro hb3 HB2
 go_wp2_with fail
 clear hw3 hg8
 refine(HFR.out w3 HB3.out).mono ?_
 rintro e w4 ⟨⟨vF,rfl,hof⟩,hb4⟩
 obtain⟨gF,cF,rfl,_,_,_,hgF,_,hcF,_⟩:=own_all hof hF0
 have hFc:∀ i,i<F.length→w4.cell? ⟨gF,i,none⟩=some (.int .i64 ((F.getD i 0:Nat):Int)):=fun i hi=>hcF i _ (by rw[List.getElem?_map,List.getD_eq_getElem?_getD,List.getElem?_eq_getElem hi];rfl)
 have HB4:=bt HB3 hb4
 have HRO4:=Kh (HRO.out.keep hb4)
 have HFC:=Kh hFc
 clear hof hgF hcF hFc hb4 HRO HB3 HFR HCN
 go_wp2_with fail
 go_loopw [8,40] (fun v8 ii wr=>∃ i:Nat,i≤F.length∧ii=.int .i64 i∧RowsOwn RM i F.length wr w0.heap.size v8∧(∀ k,k<F.length→wr.cell? ⟨gF,k,none⟩=some (.int .i64 ((F.getD k 0:Nat):Int)))∧Below w0.heap.size w0 wr) (fun _ ii _=>F.length - (intOf ii).toNat)
 case atStart=>exact⟨0,Nat.zero_le _,rfl,HRO4.out,HFC.out,HB4.out⟩
 case round=>
  obtain⟨i,hi,rfl,hro,hfc,hbw⟩:=hrel
  obtain⟨wx,rfl⟩:∃ wx:World,wx=wr:=⟨_,rfl⟩
  have HROX:=Kh hro
  have HFX:=Kh hfc
  have HBW:=Kh hbw
  have hflb:F.length≤72:=HFL.out
  clear hro hfc hbw HRO4 HFC HB4
  by_cases hlt:i<F.length
  ·have hii:(i:Int)<(F.length:Int):=by omega
   have q0:=HFX.out i hlt
   have hfi:=HFL0.out i hlt
   obtain⟨r,hr⟩:∃ r,F.getD i 0=r:=⟨_,rfl⟩
   rw[hr]at q0 hfi
   have HFI:=Kh hfi
   have HRE:=Kh hr
   have HSB:=Kh hlt
   clear hlt hfi hr
   go_wp2_with fail
   have hrm:=ZRow.made (fun _=>0) wx C
   obtain⟨wz,hwz⟩:∃ wz,wx.alloc (.cells (madeCells #[.bool false,.slice none 0 0] (C*2)) 84)=wz:=⟨_,rfl⟩
   have hbz:Below wx.heap.size wx wz:=hwz▸(Below.refl _ _).alloc (Nat.le_refl _) _
   rw[hwz]at hrm ⊢
   obtain⟨G,hG⟩:∃ g,wx.heap.size=g:=⟨_,rfl⟩
   have HBG:=Kh (show ∀ W,Below G wx W→Below w0.heap.size w0 W from fun W hb=>HBW.out.trans ((hG▸hb:Below wx.heap.size wx W).mono HBW.out.size))
   rw[hG]at hrm hbz ⊢
   have HRM:=Kh hrm
   have HBZ:=Kh hbz
   have HGXE:=Kh hG
   clear hrm hbz hwz hG q0
   go_loopw [48] (fun ii wr=>∃ k:Nat,k≤C∧ii=.int .i64 k∧ZRow (fun _=>0) wr G C k∧Below G wx wr) (fun ii _=>C - (intOf ii).toNat)
   case atStart=>exact⟨0,Nat.zero_le _,rfl,HRM.out,HBZ.out⟩
   case round=>
    obtain⟨k,hk,rfl,hrow,hbr⟩:=hrel
    obtain⟨w2',rfl⟩:∃ w2':World,w2'=wr:=⟨_,rfl⟩
    have HROW:=Kh hrow
    have HBR:=Kh hbr
    clear hrow hbr HRM HBZ
    by_cases hlt:k<C
    ·have hki:(k:Int)<(C:Int):=by omega
     go_wp2_with fail
     refine(c_Of 0 w2' (by omega) (by omega)).mono ?_
     rintro e w3' ⟨⟨s3',p3,n3,c3,rfl,hz3⟩,hb3⟩
     have hr3:=ZRow.keep HROW.out hb3
     have HQA:=Kh (ZRow.set (k':=k+1) hr3 k hlt (fun _=>0) (fun i' h1 h2=>⟨by omega,rfl⟩) hz3)
     have HB3:=Kh (HBR.out.trans (hb3.mono (Nat.le_of_lt HROW.out.sts.1)))
     obtain⟨u0,hu0⟩:=Option.isSome_iff_exists.1 (hr3.has (k*2) (by omega))
     obtain⟨u2,hu2⟩:=Option.isSome_iff_exists.1 (hr3.has (k*2+1) (by omega))
     have f0:=hr3.free (k*2) (by omega)
     have f1:=hr3.free (k*2+1) (by omega)
     clear hz3 hb3 hr3
     go_wp2
     go_roundw
     case rel=>exact⟨k+1,by omega,by go_num,HQA.out,below_put2 HB3.out (Nat.le_refl _)⟩
     case measure=>simp[intOf];omega
    ·obtain rfl:C=k:=by omega
     clear hlt hk
     go_wp2_with fail
     go_loopw [58] (fun ii wr=>∃ t:Nat,t≤gs.length∧ii=.int .i64 t∧ZRow (hkV n wt L f r gs t) wr G C C∧Below G wx wr) (fun ii _=>gs.length - (intOf ii).toNat)
     case atStart=>exact⟨0,Nat.zero_le _,rfl,by rw[HH0.out];exact HROW.out,HBR.out⟩
     case round=>
      obtain⟨t,ht,rfl,hrow,hbr⟩:=hrel
      obtain⟨wt1,rfl⟩:∃ wt1:World,wt1=wr:=⟨_,rfl⟩
      have HROWT:=Kh hrow
      have HBT:=Kh hbr
      clear hrow hbr HROW HBR
      by_cases htl:t<gs.length
      ·have hti:(t:Int)<(gs.length:Int):=by omega
       obtain⟨m0,m1,m2,m3⟩:=HMT.out wt1 (HBG.out wt1 HBT.out) t htl
       have hgin:=HGI.out t htl
       have hnd:=fun k=>HND.out r t k (by omega)
       have hmd:=fun k=>HMD.out r t k htl
       have hhs:=HHS.out r t
       obtain⟨⟨ga,gb,gc,gd⟩,hg⟩:∃ g:M4,gs.getD t (0,0,0,0)=g:=⟨_,rfl⟩
       rw[hg]at m0 m1 m2 m3 hgin hmd hhs
       dsimp only at m0 m1 m2 m3
       have HGIN:=Kh hgin
       obtain⟨Fr,hFr⟩:∃ Fr:Nat→Int,hkV n wt L f r gs t=Fr:=⟨_,rfl⟩
       rw[hFr]at hnd hhs HROWT
       obtain⟨Y,hY⟩:∃ Y:Nat→Int,mvd n wt L f (r / L.length) (r % L.length) (ga,gb,gc,gd)=Y:=⟨_,rfl⟩
       rw[hY]at hmd hhs
       have HSF:=Kh hnd
       have HSY:=Kh hmd
       have HRT:=Kh hhs
       have HYE:=Kh hY
       clear hgin hnd hmd hhs hg hFr hY
       go_wp2_with fail
       obtain⟨we,hwe⟩:∃ we,wt1.alloc (.cells #[.int .i64 ga,.int .i64 gb,.int .i64 gc,.int .i64 gd] 63)=we:=⟨_,rfl⟩
       have hbe:Below wt1.heap.size wt1 we:=hwe▸(Below.refl _ _).alloc (Nat.le_refl _) _
       have X:=hwe▸Blk.new wt1 63 #[.int .i64 ga,.int .i64 gb,.int .i64 gc,.int .i64 gd]
       rw[hwe]
       obtain⟨gx,hgx⟩:∃ gx,wt1.heap.size=gx:=⟨_,rfl⟩
       have HBGE:=Kh (HBT.out.trans (hbe.mono (Nat.le_of_lt HROWT.out.sts.1)))
       have HBE:=Kh (HBG.out we HBGE.out)
       have HROWE:=Kh (ZRow.keep HROWT.out hbe)
       rw[hgx]at X ⊢
       have x0:=X.at_ 0 rfl
       have x1:=X.at_ 1 rfl
       have x2:=X.at_ 2 rfl
       have x3:=X.at_ 3 rfl
       clear hwe hbe X hgx m0 m1 m2 m3 HBT HROWT
       go_upto_region 17 with(fail)
       refine rgX [5,6,7,8,9] (fun W=>W.cell? ⟨gx,0,none⟩=some (.int .i64 ga)∧W.cell? ⟨gx,1,none⟩=some (.int .i64 gb)∧W.cell? ⟨gx,2,none⟩=some (.int .i64 gc)∧W.cell? ⟨gx,3,none⟩=some (.int .i64 gd)) (fun W hb=>⟨cnx hb x0,cnx hb x1,cnx hb x2,cnx hb x3⟩) (fun HSE hHeld0=>?_)
       refine tkX 0 ?_;refine tkX 2 ?_;refine tkX 3 ?_
       refine stX 1 rfl (fun K hK=>?_)
       focus(go_simp;(with_reducible refine(HSP.out we.drew (HBE.out.trans ((Below.refl _ we).drew.mono HBE.out.size))).mono ?_);rintro e w3 ⟨rfl,hb3⟩;have HB3:=Kh ((Below.refl _ we).drew.trans hb3:Below we.heap.size we w3);clear hb3;(first|with_reducible refine hK.out _ _ ?_ (fun hHeld1=>?_) |(go_wp2_with fail;with_reducible refine hK.out _ _ ?_ (fun hHeld1=>?_))))
       focus((try dsimp only);exact HSE.out _ HB3.out)
       focus(clear hK K;(try simp only[Act.put,lsa,lsz,lss]))
       refine snX 4 rfl (fun K hK=>?_)
       focus(go_simp;(with_reducible refine(HMA.out w3 (HBE.out.trans (HB3.out.mono HBE.out.size)) r ga gb gc gd HFI.out HGIN.out).mono ?_);rintro e w5 ⟨⟨gm,rfl,hgm,hrm⟩,hb5⟩;have HB5:=bt HB3 hb5;have HGM:=Kh (show we.heap.size≤gm from Nat.le_trans HB3.out.size hgm);have HRM5:=Kh hrm;clear hgm hrm hb5;(first|with_reducible refine hK.out _ _ ?_ |(go_wp2_with fail;with_reducible refine hK.out _ _ ?_)))
       clear hK K
       (try simp only[Act.put,lsa,lsz,lss])
       refine tkJ 5 ?_;refine tkJ 6 ?_;refine tkJ 7 ?_;refine tkJ 8 ?_;refine tkJ 9 ?_
       refine dnX ?_
       rw[HYE.out]at HRM5
       have HROW5:=Kh (ZRow.keep HROWE.out HB5.out)
       have HBR5:=Kh (HBGE.out.trans (HB5.out.mono (Nat.le_of_lt HROWE.out.sts.1)))
       have HGMN:=Kh (show gm≠G by have h1:=HROWE.out.sts.1;have h2:=HGM.out;omega)
       have HROWS:=Kh (show ZRow (addZ Fr Y 0) w5 G C C from ZRow.congr HROW5.out (fun j _=>(addZ_zero Fr Y j).symm))
       clear HROWE HBGE HBE HB3 HB5 HGM HYE x0 x1 x2 x3
       go_wp2_with fail
       go_loopw [76] (fun ii wr=>∃ k:Nat,k≤C∧ii=.int .i64 k∧ZRow (addZ Fr Y k) wr G C C∧w5.grownBy wr (some G)) (fun ii _=>C - (intOf ii).toNat)
       case atStart=>exact⟨0,Nat.zero_le _,rfl,HROWS.out,but_below G (Below.refl _ _)⟩
       case round=>
        obtain⟨k,hk,rfl,hrow,hgr⟩:=hrel
        obtain⟨w6,rfl⟩:∃ w6:World,w6=wr:=⟨_,rfl⟩
        have HROW6:=Kh hrow
        have HGR6:=Kh hgr
        clear hrow hgr HROWS
        by_cases hlt:k<C
        ·have hki:(k:Int)<(C:Int):=by omega
         obtain⟨s,p,n5,c5,a0,a1,hz⟩:=ZE.but HROW5.out.sts HGR6.out HGMN.out (HRM5.out.val k hlt)
         have HZ:=Kh hz
         clear hz
         go_wp2_with fail
         obtain⟨w7,hw7⟩:∃ w7,w6.alloc (.cells #[.bool s,.slice p n5 c5] 84)=w7:=⟨_,rfl⟩
         have hb7:Below w6.heap.size w6 w7:=hw7▸(Below.refl _ _).alloc (Nat.le_refl _) _
         have X:=hw7▸Blk.new w6 84 #[.bool s,.slice p n5 c5]
         rw[hw7]
         obtain⟨gy,hgy⟩:∃ gy,w6.heap.size=gy:=⟨_,rfl⟩
         have HGYN:=Kh (show gy≠G by have h1:=HROW6.out.sts.1;omega)
         rw[hgy]at X ⊢
         have HZ7:=Kh (HZ.out.keep hb7)
         have HN5:=Kh (show n5≤5000 by rw[← HZ.out.2.1];have:=HSY.out k;omega)
         refine(c_Sign s p n5 c5 (Y k) w7 HZ7.out.raw (by have:=HN5.out;omega)).mono ?_
         rintro e w8 ⟨rfl,hb8⟩
         have hb68:=hb7.trans (hb8.mono hb7.size)
         have HROW8:=Kh (ZRow.keep HROW6.out hb68)
         have HGR8:=Kh (HGR6.out.trans (but_below G hb68))
         have HX8:=Kh (X.below_ hb8 X.lt)
         have HZ8:=Kh (HZ7.out.keep hb8)
         clear hw7 hb7 X hgy hb8 hb68 a0 a1 HROW6 HGR6 HZ HZ7
         by_cases hz0:Y k=0
         ·have hsg:(Int.sign (Y k) != 0)=false:=by rw[hz0];rfl
          have HSK:=Kh (show ZRow (addZ Fr Y (k+1)) w8 G C C from ZRow.congr HROW8.out (fun j _=>addZ_skip hz0 j))
          clear hz0
          go_wp2
          go_roundw
          case rel=>exact⟨k+1,by omega,by go_num,HSK.out,HGR8.out⟩
          case measure=>simp[intOf];omega
         ·have hsg:(Int.sign (Y k) != 0)=true:=by
           have h:Int.sign (Y k)≠0:=fun e=>hz0 (Int.sign_eq_zero_iff_zero.1 e)
           simpa using h
          obtain⟨s5,p5,n6,c6,f0,f1,hz5⟩:=HROW8.out.val k hlt
          rw[addZ_at]at hz5
          have HF5:=Kh hz5
          have HN6:=Kh (show n6≤5000 by rw[← hz5.2.1];have:=HSF.out k;omega)
          have hgyn:=HGYN.out
          have x0:=HX8.out.at_ 0 rfl
          have x1:=HX8.out.at_ 1 rfl
          have hGl:G<w8.heap.size:=HROW8.out.sts.1
          have hgl:gy<w8.heap.size:=HX8.out.lt
          have hra:=HROW8.out
          clear hz0 hz5
          go_upto_region 24 with(fail)
          refine rgB (fun W=>W.cell? ⟨gy,0,none⟩=some (.bool s)∧W.cell? ⟨gy,1,none⟩=some (.slice p n5 c5)∧W.cell? ⟨G,k*2,none⟩=some (.bool s5)∧W.frozen? ⟨G,k*2,none⟩=false∧W.cell? ⟨G,k*2+1,none⟩=some (.slice p5 n6 c6)∧W.frozen? ⟨G,k*2+1,none⟩=false) (fun W hb=>⟨cnx hb x0,cnx hb x1,cnx hb f0,frozen_keep hb (by rw[f0];rfl) (hra.free (k*2) (by omega)),cnx hb f1,frozen_keep hb (by rw[f1];rfl) (hra.free (k*2+1) (by omega))⟩) (fun HSE hHeld0=>?_)
          clear x0 x1 f0 f1 hra
          refine tkE 0 ?_;refine tkE 1 ?_;refine tkE 2 ?_;refine tkE 3 ?_;refine tkE 4 ?_;refine tkE 5 ?_;refine tkE 6 ?_
          refine stE 7 rfl (fun K hK=>?_)
          focus(go_simp;refine(c_Add s5 p5 n6 c6 (Fr k) s p n5 c5 (Y k) _ (HF5.out.keep (Below.refl _ w8).drew).raw (HZ8.out.keep (Below.refl _ w8).drew).raw (by have:=HN6.out;omega) (by have:=HN5.out;omega)).mono ?_;rintro e w9 ⟨⟨s6,p6,n7,c7,rfl,hz6⟩,hb6⟩;have HB9:=Kh ((Below.refl _ w8).drew.trans hb6:Below w8.heap.size w8 w9);have hrr:=ZRow.keep HROW8.out HB9.out;have HPUT:=Kh (ZRow.set (k':=C) hrr k hlt (addZ Fr Y (k+1)) (fun i h1 h2=>⟨h1,addZ_far h2⟩) (by rw[addZ_put];exact hz6));have HG9:=Kh (show ∀ v0 v1,w5.grownBy ((w9.setCell ⟨G,k*2,none⟩ v0).setCell ⟨G,k*2+1,none⟩ v1) (some G)from fun _ _=>(HGR8.out.trans (but_below G HB9.out)).trans (but_put2 w9 G _ _ _ _));clear hz6 hb6 hrr;(first|with_reducible refine hK.out _ _ ?_ (fun hHeld1=>?_) |(go_wp2_with fail;with_reducible refine hK.out _ _ ?_ (fun hHeld1=>?_))))
          focus((try dsimp only);exact HSE.out _ HB9.out)
          focus(clear hK K;(try simp only[Act.put,lsa,lsz,lss]))
          refine tkE 8 ?_
          refine laE 9 rfl (fun K hK=>?_)
          go_simp
          refine hK.out _ _ ?_
          clear hK K
          (try simp only[Act.put,lsa,lsz,lss])
          all_goals go_wp2
          all_goals go_roundw
          all_goals first
           | exact⟨k+1,by omega,by go_num,HPUT.out,HG9.out _ _⟩
           |(simp[intOf];omega)
        ·obtain rfl:C=k:=by omega
         have HRD:=Kh (show ZRow (hkV n wt L f r gs (t+1)) w6 G C C from ZRow.congr HROW6.out (fun j hj=>by rw[addZ_done hj,HRT.out]))
         have HBD:=Kh (show Below G wx w6 from below_but HBR5.out HGR6.out (Nat.le_of_lt HROW5.out.sts.1) (Nat.le_refl _))
         go_wp2
         go_roundw
         case rel=>exact⟨t+1,by omega,by go_num,HRD.out,HBD.out⟩
         case measure=>simp[intOf];omega
      ·obtain rfl:gs.length=t:=by omega
       clear htl ht
       obtain⟨V,hV⟩:∃ V:Nat→Int,hkV n wt L f r gs gs.length=V:=⟨_,rfl⟩
       rw[hV]at HROWT
       have HVS:=Kh (show ∀ j,nd (V j).natAbs≤5000 from fun j=>by have h:=HND.out r gs.length j (Nat.le_refl _);rw[hV]at h;omega)
       have HVV:=Kh hV
       clear hV
       go_wp2_with fail
       have hqm:=QRow.made (fun j=>IsQ ((V j:Int):Rat)) wt1 C
       obtain⟨wy,hwy⟩:∃ wy,wt1.alloc (.cells (madeCells #[.bool false,.slice none 0 0,.bool false,.slice none 0 0] (C*4)) 86)=wy:=⟨_,rfl⟩
       have hby:Below wt1.heap.size wt1 wy:=hwy▸(Below.refl _ _).alloc (Nat.le_refl _) _
       rw[hwy]at hqm ⊢
       obtain⟨G2,hG2⟩:∃ g,wt1.heap.size=g:=⟨_,rfl⟩
       have HGT:=Kh (show ∀ W,Below G2 wt1 W→Below wt1.heap.size wt1 W from fun W hb=>hG2▸hb)
       have HGS:=Kh (show ∀ W:World,Below G2 wt1 W→G2≤W.heap.size from fun W hb=>hG2▸hb.size)
       rw[hG2]at hqm hby ⊢
       have HQM:=Kh hqm
       have HBY:=Kh hby
       clear hqm hby hwy hG2
       go_loopw [99] (fun ii wr=>∃ k:Nat,k≤C∧ii=.int .i64 k∧QRow (fun j=>IsQ ((V j:Int):Rat)) wr G2 C k∧Below G2 wt1 wr) (fun ii _=>C - (intOf ii).toNat)
       case atStart=>exact⟨0,Nat.zero_le _,rfl,HQM.out,HBY.out⟩
       case round=>
        obtain⟨k,hk,rfl,hrow,hbr⟩:=hrel
        obtain⟨w6,rfl⟩:∃ w6:World,w6=wr:=⟨_,rfl⟩
        have HRQ:=Kh hrow
        have HB6:=Kh hbr
        have HZR:=Kh (ZRow.keep HROWT.out (HGT.out w6 hbr))
        clear hrow hbr HQM HBY
        by_cases hlt:k<C
        ·have hki:(k:Int)<(C:Int):=by omega
         obtain⟨s,p,n5,c5,a0,a1,hz⟩:=HZR.out.val k hlt
         have HZ:=Kh hz
         clear hz
         go_wp2_with fail
         obtain⟨w7,hw7⟩:∃ w7,w6.alloc (.cells #[.bool s,.slice p n5 c5] 84)=w7:=⟨_,rfl⟩
         have hb7:Below w6.heap.size w6 w7:=hw7▸(Below.refl _ _).alloc (Nat.le_refl _) _
         rw[hw7]
         refine(c_Whole s p n5 c5 (V k) w7 (HZ.out.keep hb7).raw (by have h1:=HVS.out k;rw[HZ.out.2.1]at h1;omega)).mono ?_
         rintro e w8 ⟨⟨s6,p6,n6,c6,t6,q6,m6,d6,rfl,hq6⟩,hb8⟩
         have hb68:=hb7.trans (hb8.mono hb7.size)
         have hrr:=HRQ.out.keep (fun _=>IsQ.solid _) hb68
         have HPUT:=Kh (QRow.set (k':=k+1) (fun _=>IsQ.solid _) hrr k hlt (fun j=>IsQ ((V j:Int):Rat)) (IsQ.solid _) (fun i h1 h2=>⟨by omega,rfl⟩) (show IsQ ((V k:Int):Rat) w8 s6 p6 n6 c6 t6 q6 m6 d6 from hq6))
         have HB8:=Kh (HB6.out.trans (hb68.mono (HGS.out w6 HB6.out)))
         obtain⟨u0,hu0⟩:=Option.isSome_iff_exists.1 (hrr.has (k*4) (by omega))
         obtain⟨u1,hu1⟩:=Option.isSome_iff_exists.1 (hrr.has (k*4+1) (by omega))
         obtain⟨u2,hu2⟩:=Option.isSome_iff_exists.1 (hrr.has (k*4+2) (by omega))
         obtain⟨u3,hu3⟩:=Option.isSome_iff_exists.1 (hrr.has (k*4+3) (by omega))
         have f0:=hrr.free (k*4) (by omega)
         have f1:=hrr.free (k*4+1) (by omega)
         have f2:=hrr.free (k*4+2) (by omega)
         have f3:=hrr.free (k*4+3) (by omega)
         clear hw7 hb7 hb8 hb68 hrr hq6 a0 a1
         go_wp2
         go_roundw
         case rel=>exact⟨k+1,by omega,by go_num,HPUT.out,below_put4g HB8.out⟩
         case measure=>simp[intOf];omega
        ·obtain rfl:C=k:=by omega
         clear hlt hk
         have hbx6:Below G wx w6:=HBT.out.trans ((HGT.out w6 HB6.out).mono (Nat.le_of_lt HROWT.out.sts.1))
         have HB06:=Kh (HBG.out w6 hbx6)
         have hbx6':Below wx.heap.size wx w6:=HGXE.out.symm▸hbx6
         have HRX6:=Kh (HROX.out.keep hbx6')
         have HFX6:=Kh (show ∀ k,k<F.length→w6.cell? ⟨gF,k,none⟩=some (.int .i64 ((F.getD k 0:Nat):Int))from fun k hk=>cell_next hbx6' (HFX.out k hk))
         clear hbx6 hbx6' HZR HB6 HBT HROWT
         go_wp2_with fail
         refine(HVE.out w6 HB06.out (.slice (some ⟨G2,0,none⟩) C C) (fun j=>((V j:Int):Rat)) (HRQ.out.ql C) hC0 (fun j _=>by have:=HVS.out j;rw[hq_int];omega)).mono ?_
         rintro e wv ⟨⟨gv,rfl,_,hrv⟩,hbv⟩
         have hrn:QRow (fun q=>IsQ (RM i q)) wv gv F.length F.length:=hrv.congr (fun q _=>by
          rw[← HRME.out,HKM.out,HRE.out,HVV.out])
         obtain⟨gs8,hk8,hr8⟩:=HRX6.out.keep hbv
         have hfx:∀ k,k<F.length→wv.cell? ⟨gF,k,none⟩=some (.int .i64 ((F.getD k 0:Nat):Int)):=fun k hk=>cell_next hbv (HFX6.out k hk)
         have HB0V:=bt HB06 hbv
         have HNF:=Kh (show some gF≠Value.ownBlock u8 from fun e=>by
          obtain⟨p',n',c',h3⟩:=(hk8.2 gF e.symm).2 0 _ (hfx 0 hF0)
          cases h3)
         have HK8:=Kh hk8
         have HR8:=Kh hr8
         have HRN:=Kh hrn
         have HFXV:=Kh hfx
         have hb0v:=HB0V.out.size
         have hiL:=HSB.out
         clear hk8 hr8 hrn hfx hrv hbv HRX6 HFX6 HB06 HRQ
         go_wp2_with (at_builtin;refine wpl_app2 SliceV rfl (.tmp 120) (.tmp 122) _ 30 rfl Tryz.underlying104 rowQInfo rfl (by decide) w0.heap.size i u8 ((List.range i).map fun i=>Value.slice (some ⟨gs8 i,0,none⟩) F.length F.length) [.slice (some ⟨gv,0,none⟩) F.length F.length] rfl HK8.out rfl rfl (hone1 _ _ _) (by omega) (by omega) hb0v (hsv1 _ _ _) hslZ ?_;intro v9 w9 hown9 hgr9 hat9;have HRN9:=Kh (RowsOwn.push hF0 HK8.out HR8.out HRN.out hown9 hgr9);have HFX9:=Kh (show ∀ k,k<F.length→w9.cell? ⟨gF,k,none⟩=some (.int .i64 ((F.getD k 0:Nat):Int))from fun k hk=>hgr9.cell (HFXV.out k hk) HNF.out);have HB9:=Kh (own_below HB0V.out HK8.out.1 hgr9 (Nat.le_refl _) hb0v);clear hown9 hgr9 hat9)
         go_roundw
         case rel=>exact⟨i+1,by omega,by go_num,HRN9.out,HFX9.out,HB9.out⟩
         case measure=>simp[intOf];omega
  ·obtain rfl:F.length=i:=by omega
   clear hlt hi
   go_wp2_with fail
   refine(HDM.out wx HBW.out).mono ?_
   rintro e w' ⟨rfl,hw'⟩
   obtain rfl:wx=w':=hw'.symm
   clear hw'
   go_wp2_with fail
   refine(c_FromRows RM F.length F.length u8 wx (HROX.out.in_ hF0) hF0 (by omega) hF0 (by omega) (fun a b ha hb=>by
    rw[← HRME.out,HKM.out]
    have h1:=vecS_size (V:=fun j=>(hkV n wt L f (F.getD a 0) gs gs.length j:Rat)) (X:=X) (A:=5000) (B:=10000) (f:=F.getD b 0) C (fun j _=>by have:=HND.out (F.getD a 0) gs.length j (Nat.le_refl _);rw[hq_int];omega) (fun j hj=>HXS.out j b hj hb)
    have h2:C*(5000+10000+1)≤72*(5000+10000+1):=Nat.mul_le_mul_right _ hC
    omega)).mono ?_
   rintro e w9 ⟨⟨p9,c9,rfl,hq9⟩,hb9⟩
   have hb09:=HBW.out.trans (hb9.mono HBW.out.size)
   have X9:=bk HX0 hb09
   have x0:=X9.at_ 0 rfl
   have x1:=X9.at_ 1 rfl
   have x2:=X9.at_ 2 rfl
   have f0:=X9.free_ 0
   have f1:=X9.free_ 1
   have f2:=X9.free_ 2
   have hst:Stk NotU32 w9 w.heap.size:=Stk.of X9 (by intro v hv;simp at hv;rcases hv with rfl|rfl|rfl <;> exact fun _ h=>by cases h)
   have hnb:Stk (fun v=>∀ b,v≠.bool b) w9 w.heap.size:=Stk.of X9 (by intro v hv;simp at hv;rcases hv with rfl|rfl|rfl <;> exact fun _ h=>by cases h)
   have HNE:=Kh (show ∀ a,p9=some a→a.block≠w.heap.size from fun a ha e=>by
    obtain⟨g,o,cap,e1,_,h1⟩:=hq9.resolve_left (fun h=>by have:=Nat.mul_pos hF0 hF0;omega)
    injection e1 with e1
    obtain⟨s,p,n',c,t,q,m',d,h2,_⟩:=h1 0 (Nat.mul_pos hF0 hF0)
    rw[ha]at e1
    injection e1 with e1
    rw[e1]at e
    rw[show g=w.heap.size from e]at h2
    exact hnb.2 _ _ h2 _ rfl)
   have HE3:=Kh (put3_at (w:=w9) (R:=w.heap.size) (v0:=.int .i64 (F.length:Int)) (v1:=.int .i64 (F.length:Int)) (v2:=.slice p9 (F.length*F.length) c9) (by rw[x0];rfl) (by rw[x1];rfl) (by rw[x2];rfl))
   have HI3:=Kh (put3_32 hst (v0:=.int .i64 (F.length:Int)) (v1:=.int .i64 (F.length:Int)) (v2:=.slice p9 (F.length*F.length) c9) (fun _ h=>by cases h) (fun _ h=>by cases h))
   have HG3:=Kh (((but_put w9 w.heap.size 0 (.int .i64 (F.length:Int))).trans (but_put _ w.heap.size 1 (.int .i64 (F.length:Int)))).trans (but_put _ w.heap.size 2 (.slice p9 (F.length*F.length) c9)))
   have HQ9:=Kh hq9
   have HB9:=bt HB0 hb09
   clear hq9 hb9 hb09 X9 hst hnb
   go_wp2
   have e0:=HE3.out.1
   have e1:=HE3.out.2.1
   have e2:=HE3.out.2.2
   try simp only[Exit.inBlock,Exit.then]
   refine bodyPost_ret (by simp[results,Tryz.results53,go_sem,e0,e1,e2];try rfl) rfl ?_
   exact⟨⟨p9,c9,rfl,by rw[HRME.out];exact HQ9.out.boxed (fun _=>IsQ.solid _) HI3.out HG3.out HNE.out⟩,below_but HB9.out HG3.out HB9.out.size (Nat.le_refl _)⟩
end Go.Proofs.YtenlbhlllgppmaaGreatDoor
