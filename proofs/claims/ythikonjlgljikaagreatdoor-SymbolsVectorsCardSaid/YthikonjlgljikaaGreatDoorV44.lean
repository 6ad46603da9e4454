/- Contract of halfplaneref09.Rows: the rows of a matrix as a list. -/
import Derived.Test.YthikonjlgljikaaGreatDoorV43
import Derived.Test.YthikonjlgljikaaGreatDoorV12
import Derived.Test.YthikonjlgljikaaGreatDoorV41
set_option linter.unusedSimpArgs false
set_option maxRecDepth 100000
set_option maxHeartbeats 8000000
namespace Go.Proofs.YthikonjlgljikaaGreatDoor
open Go.RowKit Eli
theorem qe_next {F:FP} (hF:Solid F) {w w':World} {B g i:Nat} (h:QE F w g i) (hg:g<B) (h32:I32 w w') (hb:Below B w w'):QE F w' g i:=by
 have hk:∀ j v,w.cell? ⟨g,j,none⟩=some v→w'.cell? ⟨g,j,none⟩=some v:=fun j v e=>(hb.cell (p:=⟨g,j,none⟩) hg).trans e
 obtain⟨s,p,n,c,t,q,m,d,h0,h1,h2,h3,h4⟩:=h
 exact⟨s,p,n,c,t,q,m,d,hk _ _ h0,hk _ _ h1,hk _ _ h2,hk _ _ h3,hF _ _ _ _ _ _ _ _ _ _ h32 h4⟩
theorem map_take {X:Nat→Nat→Rat} {i:Nat}:(List.range (i+1)).map X=(List.range i).map X++[X i]:=by rw[List.range_succ,List.map_append];rfl
theorem ix_lt {i j R C:Nat} (hi:i<R) (hj:j<C):i*C+j<R*C:=by
 have h1:i*C+C≤R*C:=by rw[← Nat.succ_mul];exact Nat.mul_le_mul_right _ hi
 omega
theorem c_Rows09 (R C RC:Nat) (g o cap:Nat) (X:Nat→Nat→Rat) (w:World) (h:∀ i q,i<R→q<C→QE (IsQ (X i q)) w g (o+(i*C+q)*4)) (hg:g<w.heap.size) (hx:∀ i q,i<R→q<C→hq (X i q)≤1000000000) (hRC:R*C=RC) (hR:R≤1000) (hC:C≤1000) (hC0:0<C):
  Calls Tryz.prog 111 #[.agg #[.int .i64 R,.int .i64 C,.slice (some ⟨g,o,none⟩) RC cap]] w fun e w'=>(∃ v,e=.returned v∧OwnG ((List.range R).map X) C w' w.heap.size v)∧Below w.heap.size w w':=by
 have HE:=Kh h
 have HX:=Kh hx
 have HRC:=Kh hRC
 have hRCle:RC≤1000000:=by rw[← hRC];exact Nat.mul_le_mul hR hC
 clear h hx hRC
 go_enter Tryz.func111,Tryz.ntmps111
 go_wp2_with fail
 obtain⟨w0,hw0,X0,hb0⟩:=bx1 w #[.int .i64 R,.int .i64 C,.slice (some ⟨g,o,none⟩) RC cap] 51
 rw[hw0]
 obtain⟨bm,hbm⟩:∃ y,w.heap.size=y:=⟨_,rfl⟩
 rw[hbm]at X0 ⊢
 obtain⟨B0,hB0⟩:∃ y,w0.heap.size=y:=⟨_,rfl⟩
 have HBM:=Kh hbm
 have HB0:=Kh hB0
 have HX0:=Kh X0
 have HB00:=Kh hb0
 have HORD:=Kh (show g<bm∧bm<B0 from⟨hbm▸hg,hB0▸X0.lt⟩)
 have HI0:=Kh (show I32 w w0 from I32.below hb0)
 clear hw0 X0 hb0 hbm hB0 hg
 go_loopw [3,4] (fun vo vi wr=>∃ i:Nat,i≤R∧vi=.int .i64 i∧OwnG ((List.range i).map X) C wr B0 vo∧Below B0 w0 wr∧I32 w0 wr) (fun _ vi _=>R - (intOf vi).toNat)
 case atStart=>exact⟨0,Nat.zero_le _,rfl,OwnG.nil _ _ _,Below.refl _ _,I32.refl _⟩
 case round=>
  obtain⟨i,hi,rfl,hog,hbw,h32⟩:=hrel
  obtain⟨we,rfl⟩:∃ we:World,we=wr:=⟨_,rfl⟩
  have HOG:=Kh hog
  have HBW:=Kh hbw
  have H32:=Kh h32
  have HBS:=Kh (show B0≤we.heap.size from HB0.out▸hbw.size)
  have x0:=(hbw.cell (p:=⟨bm,0,none⟩) HORD.out.2).trans (HX0.out.at_ 0 rfl)
  have HXW:=Kh (show we.cell? ⟨bm,1,none⟩=some (.int .i64 C)∧we.cell? ⟨bm,2,none⟩=some (.slice (some ⟨g,o,none⟩) RC cap)from⟨(hbw.cell (p:=⟨bm,1,none⟩) HORD.out.2).trans (HX0.out.at_ 1 rfl),(hbw.cell (p:=⟨bm,2,none⟩) HORD.out.2).trans (HX0.out.at_ 2 rfl)⟩)
  by_cases hlt:i<R
  ·have hki:(i:Int)<(R:Int):=by omega
   have HQE:=Kh (fun q (hq1:q<C)=>qe_next (IsQ.solid _) ((HE.out i q hlt hq1).keep (IsQ.solid _) HB00.out) (Nat.lt_trans HORD.out.1 HORD.out.2) h32 hbw)
   obtain⟨Bi,hBi⟩:∃ y,we.heap.size=y:=⟨_,rfl⟩
   have HBI:=Kh hBi
   have HORD2:=Kh (show g<Bi∧bm<Bi∧B0≤Bi by have:=HORD.out;have:=HBS.out;omega)
   clear hog hbw h32 hBi
   go_wp2_with fail
   go_loopw [5,6] (fun vr vj wr=>∃ j:Nat,j≤C∧vj=.int .i64 j∧OwnQ (fun q=>IsQ (X i q)) wr Bi vr j∧Below Bi we wr∧I32 we wr) (fun _ vj _=>C - (intOf vj).toNat)
   case atStart=>exact⟨0,Nat.zero_le _,rfl,OwnQ.nil _ _ _,Below.refl _ _,I32.refl _⟩
   case round=>
    obtain⟨j,hj,rfl,hoq,hbi,h3i⟩:=hrel
    obtain⟨wi,rfl⟩:∃ wi:World,wi=wr:=⟨_,rfl⟩
    have HOQ:=Kh hoq
    have HBJ:=Kh hbi
    have H3I:=Kh h3i
    have HSI:=Kh (show Bi≤wi.heap.size from HBI.out▸hbi.size)
    have y1:=(hbi.cell (p:=⟨bm,1,none⟩) HORD2.out.2.1).trans HXW.out.1
    have y2:=(hbi.cell (p:=⟨bm,2,none⟩) HORD2.out.2.1).trans HXW.out.2
    by_cases hjl:j<C
    ·have hji:(j:Int)<(C:Int):=by omega
     obtain⟨iC,hiC⟩:∃ y,i*C=y:=⟨_,rfl⟩
     obtain⟨ix,hix⟩:∃ y,iC+j=y:=⟨_,rfl⟩
     have hixl:ix<RC:=by rw[← hix,← hiC,← HRC.out];exact ix_lt hlt hjl
     have e1:(i:Int)*(C:Int)=(iC:Nat):=by rw[← hiC];push_cast;rfl
     have e2:(iC:Int)+(j:Int)=(ix:Nat):=by omega
     have v1:IntKind.i64.wrap (iC:Int)=(iC:Nat):=IntWalk.i64_in _ (by omega)
     have v2:IntKind.i64.wrap (ix:Int)=(ix:Nat):=IntWalk.i64_in _ (by omega)
     have i1:(ix:Int)<(RC:Int):=by omega
     obtain⟨s1,p1,n1,c1,t1,q1,m1,d1,a0,a1,a2,a3,hqx⟩:=qe_next (IsQ.solid _) (HQE.out j hjl) HORD2.out.1 h3i hbi
     rw[hiC,hix]at a0 a1 a2 a3
     have HQX:=Kh (show Qs wi s1 p1 n1 c1 t1 q1 m1 d1 (X i j)from hqx)
     have HXS:=Kh (HX.out i j hlt hjl)
     clear hoq hbi h3i hqx hiC hix x0
     go_wp2_with fail
     refine(c_sNormalQ s1 p1 n1 c1 t1 q1 m1 d1 (X i j) wi HQX.out HXS.out).mono ?_
     rintro e w5 ⟨⟨s5,p5,n5,c5,t5,q5,m5,d5,rfl,hq5⟩,hb5⟩
     obtain⟨xs,hK,hXX⟩:=HOQ.out.keep (fun _=>IsQ.solid _) hb5
     have HK:=Kh hK
     have HXX:=Kh hXX
     have HQ5:=Kh (show IsQ (X i j) w5 s5 p5 n5 c5 t5 q5 m5 d5 from hq5)
     have HB5:=Kh hb5
     have HBX:=Kh (HBJ.out.trans (hb5.mono HSI.out))
     have hB5:Bi≤w5.heap.size:=Nat.le_trans HSI.out hb5.size
     clear hK hXX hq5 hb5 a0 a1 a2 a3 y1 y2 e1 e2 v1 v2
     go_wp2_with (at_builtin;refine wpl_app2 NotInt rfl (.tmp 19) (.tmp 31) _ 35 rfl Tryz.underlying24 ratInfo rfl (by decide) Bi j u5 xs [.bool s5,.slice p5 n5 c5,.bool t5,.slice q5 m5 d5] rfl HK.out rfl rfl (one4 _ _ _ _ _ _ _ _) (by omega) (by omega) hB5 (ni4 _ _ _ _ _ _ _ _) niz ?_;intro v' w' hown' hgr hat;have HO2:=Kh (OwnQ.push (W:=_) (fun _=>IsQ.solid _) HK.out HXX.out HQ5.out hown' hgr);have HB2:=Kh (own_below HBX.out HK.out.1 hgr (Nat.le_refl _) hB5);have HI2:=Kh ((H3I.out.trans (I32.below HB5.out)).trans (I32.grown (K:=NotInt) (fun x=>not_int32 x) HK.out.2 hgr));clear hown' hgr hat)
     go_roundw
     case rel=>exact⟨j+1,by omega,by go_num,HO2.out,HB2.out,HI2.out⟩
     case measure=>simp[intOf];omega
    ·obtain rfl:j=C:=by omega
     obtain⟨pr,cr,evr⟩:=ql_value hoq.ql
     subst evr
     have HROW:=Kh (show RowV (X i) j wi (.slice pr j cr)from⟨⟨_,_,rfl⟩,hoq.ql⟩)
     have hSI:=HSI.out
     have HBF:=Kh (HBW.out.trans (hbi.mono HORD2.out.2.2))
     have hog2:OwnG ((List.range i).map X) j wi B0 _:=HOG.out.keep (by rw[HBI.out];exact hbi)
     obtain⟨xs,hK,hXX⟩:=hog2
     rw[List.length_map,List.length_range]at hK
     have HK:=Kh hK
     have HXX:=Kh hXX
     have hBs:B0≤wi.heap.size:=Nat.le_trans HORD2.out.2.2 hSI
     clear hoq hbi h3i hK hXX y2 x0
     go_wp2_with (at_builtin;refine wpl_app2 SliceV rfl (.tmp 33) (.tmp 35) _ 24 rfl Tryz.underlying110 rowQInfo rfl (by decide) B0 i u3 xs [.slice pr j cr] rfl HK.out rfl rfl (one1 _ _ _) (by omega) (by omega) hBs (sv1 _ _ _) sliceZ ?_;intro v' w' hown' hgr hat;have HIo:=Kh ((H32.out.trans H3I.out).trans (I32.grown (K:=SliceV) not_sv32 HK.out.2 hgr));have HOO2:=Kh (show OwnG ((List.range (i+1)).map X) j w' B0 v' from by rw[map_take];exact OwnG.push (l:=(List.range i).map X) (by rw[List.length_map,List.length_range];exact HK.out) HXX.out HROW.out (by rw[List.length_map,List.length_range];exact hown') hgr);have HB2:=Kh (own_below HBF.out HK.out.1 hgr (Nat.le_refl _) hBs);clear hown' hgr hat)
     go_roundw
     case rel=>exact⟨i+1,by omega,by go_num,HOO2.out,HB2.out,HIo.out⟩
     case measure=>simp[intOf];omega
  ·obtain rfl:i=R:=by omega
   have hwB:w.heap.size≤B0:=by have h1:=HORD.out;have h2:=HBM.out;omega
   have HFIN:=Kh (show Below w.heap.size w we from HB00.out.trans (hbw.mono hwB))
   have HOF:=Kh (hog.base hwB)
   clear hog hbw h32
   go_wp2
   (first|go_returns|go_ret)
   exact⟨⟨_,rfl,HOF.out⟩,HFIN.out⟩
def flatR (l:List (Nat→Rat)) (C j:Nat):Rat:=(l.getD (j / C) (fun _=>0)) (j % C)
theorem flatR_at {l:List (Nat→Rat)} {C i q:Nat} {x:Nat→Rat} (hx:l[i]?=some x) (hq1:q<C):flatR l C (i*C+q)=x q:=by
 have h1:(i*C+q) / C=i:=by rw[Nat.add_comm,Nat.add_mul_div_right _ _ (by omega),Nat.div_eq_of_lt hq1,Nat.zero_add]
 have h2:(i*C+q) % C=q:=by rw[Nat.add_comm,Nat.add_mul_mod_self_right,Nat.mod_eq_of_lt hq1]
 unfold flatR
 rw[h1,h2,List.getD_eq_getElem?_getD,hx]
 rfl
theorem c_Of09 (n C NC:Nat) (l:List (Nat→Rat)) (v:Value) (w:World) (hl:l.length=n) (hv:GridL l C w v) (hx:∀ x,x∈l→∀ q,hq (x q)≤1000000000) (hNC:n*C=NC) (hn:n≤1000) (hC:C≤1000):
  Calls Tryz.prog 112 #[.int .i64 C,v] w fun e w'=>(∃ v',e=.returned (.agg #[.int .i64 n,.int .i64 C,v'])∧OwnQ (fun j=>IsQ (flatR l C j)) w' w.heap.size v' NC)∧Below w.heap.size w w':=by
 obtain⟨pr,cr,rfl⟩:=hv.val
 rw[hl]at hv ⊢
 have HV:=Kh hv
 have HX:=Kh hx
 have HL:=Kh hl
 have HNC:=Kh hNC
 have hNCle:NC≤1000000:=by rw[← hNC];exact Nat.mul_le_mul hn hC
 clear hv hx hl hNC
 go_enter Tryz.func112,Tryz.ntmps112
 go_wp2_with fail
 obtain⟨wx,hwx,X1,X2,hb0⟩:=bx2 w #[.int .i64 0,.int .i64 0,.slice none 0 0] 51 #[.int .i64 n,.int .i64 C,.slice none 0 0] 51
 rw[hwx]
 obtain⟨gr,hgr⟩:∃ x,w.heap.size=x:=⟨_,rfl⟩
 obtain⟨ob,hob⟩:∃ x,w.heap.size+1=x:=⟨_,rfl⟩
 rw[hob]at X2 ⊢
 rw[hgr]at X1 hb0 ⊢
 have HORD:=Kh (show gr<ob by omega)
 have HBE:=Kh hgr
 have HBX:=Kh hb0
 have HX1:=Kh X1
 obtain⟨BB,hBB⟩:∃ x,wx.heap.size=x:=⟨_,rfl⟩
 have HBB:=Kh hBB
 obtain⟨F,hF⟩:∃ F:Nat→FP,F=fun j=>IsQ (flatR l C j):=⟨_,rfl⟩
 have HF:=Kh hF
 have HGS:=Kh (show ∀ j,Solid (F j)from fun j=>by rw[hF];exact IsQ.solid _)
 have HM0:=Kh (show MatAt F wx ob BB n C 0 from
  ⟨by rw[← hBB];exact X2.lt,Nat.le_of_eq hBB.symm,X2.at_ 0 rfl,X2.at_ 1 rfl,⟨none,0,X2.at_ 2 rfl,OwnQ.nil _ _ _⟩,X2.free_ 2,Stk.of X2 (by intro v hv;simp at hv;rcases hv with rfl|rfl|rfl <;> exact fun _ h=>by cases h)⟩)
 clear hwx hb0 X1 X2 hgr hob hBB hF
 go_loopw [6] (fun vi wr=>∃ i m:Nat,i≤n∧m=i*C∧vi=.int .i64 i∧MatAt F wr ob BB n C m∧wx.grownBy wr (some ob)) (fun vi _=>n - (intOf vi).toNat)
 case atStart=>exact⟨0,0,Nat.zero_le _,(Nat.zero_mul _).symm,rfl,HM0.out,but_below ob (Below.refl _ _)⟩
 case round=>
  obtain⟨i,m0,hi,hm0,rfl,hmat,hgw⟩:=hrel
  obtain⟨wo,rfl⟩:∃ wo:World,wo=wr:=⟨_,rfl⟩
  have HMO:=Kh hmat
  have HGO0:=Kh hgw
  have HM00:=Kh hm0
  clear hmat hgw HM0 hm0
  by_cases hil:i<n
  ·have hii:(i:Int)<(n:Int):=by omega
   obtain⟨x,hxl⟩:∃ x,l[i]?=some x:=⟨_,List.getElem?_eq_getElem (by rw[HL.out];exact hil)⟩
   have HXL:=Kh hxl
   obtain⟨g,o,cap,e,hg,_,hxx⟩:=HV.out.resolve_left (fun h=>by have h1:=HL.out;rw[h.1]at h1;simp at h1;omega)
   rw[HL.out]at e
   injection e with e1 _ e2
   subst e1
   subst e2
   obtain⟨vr,HVR0,hrow⟩:=hxx i x hxl
   have HVR:=Kh HVR0
   have HROW:=Kh hrow
   have HGL:=Kh (show g<gr from HBE.out▸hg)
   have HNL:=Kh (show m0+C≤NC by rw[HM00.out,← Nat.succ_mul,← HNC.out];exact Nat.mul_le_mul_right _ hil)
   clear hxl hg hxx HVR0 hrow
   go_wp2_with fail
   go_loopw [7] (fun vj wr=>∃ j m:Nat,j≤C∧m=m0+j∧vj=.int .i64 j∧MatAt F wr ob BB n C m∧wx.grownBy wr (some ob)) (fun vj _=>C - (intOf vj).toNat)
   case atStart=>exact⟨0,m0,Nat.zero_le _,rfl,rfl,HMO.out,HGO0.out⟩
   case round=>
    obtain⟨j,m,hj,hm,rfl,hmat,hgw⟩:=hrel
    obtain⟨we,rfl⟩:∃ we:World,we=wr:=⟨_,rfl⟩
    have HMT:=Kh hmat
    have HGW:=Kh hgw
    have HMM:=Kh hm
    clear hmat hgw
    by_cases hlt:j<C
    ·have hki:(j:Int)<(C:Int):=by omega
     have hmle:m+1≤1000000:=by have:=HNL.out;omega
     clear hm
     have HBW:=Kh (show Below gr w we from below_but HBX.out HGW.out (by have:=HBB.out;have:=HMT.out.lt;have:=HORD.out;omega) (by have:=HORD.out;omega))
     have hbw:=HBW.out
     rw[← HBE.out]at hbw
     have x2:=(hbw.cell (p:=⟨g,o+i,none⟩) (by rw[HBE.out];exact HGL.out)).trans HVR.out
     obtain⟨g3,o3,c3,rfl,hg3,hqe⟩:=(HROW.out.keep hbw).open_ (by omega)
     have hg3':g3<gr:=by
      obtain⟨g3',o3',c3',e,h1,_⟩:=HROW.out.open_ (by omega)
      injection e with e1 _ _
      injection e1 with e1
      injection e1 with e1 _ _
      rw[← HBE.out,e1];exact h1
     obtain⟨s1,p1,n1,c1,t1,q1,m1,d1,a0,a1,a2,a3,hz⟩:=hqe j hlt
     have HZ:=Kh (show Qs we s1 p1 n1 c1 t1 q1 m1 d1 (x j)from hz)
     have HZ1:=Kh (fun W (hb:Below we.heap.size we W)=>c_sNormalQ s1 p1 n1 c1 t1 q1 m1 d1 (x j) W (HZ.out.keep hb) (HX.out x (List.mem_of_getElem? HXL.out) j))
     obtain⟨p,c,g2,xs,hK,hXX⟩:=HMT.out.c2
     have HKK:=Kh (show ∀ W,Below we.heap.size we W→OwnK NotInt W BB 35 4 (.slice p m c) m xs from fun W hb=>hK.keep hb)
     have HXK:=Kh (show ∀ W,Below we.heap.size we W→∀ j,j<m→QX (F j) W xs (j*4)from fun W hb j hj=>(hXX j hj).i32 (HGS.out j) (I32.below hb))
     have HCL:=Kh (show ∀ W,Below we.heap.size we W→W.cell? ⟨ob,2,none⟩=some (.slice p m c)from fun W hb=>cell_next hb g2)
     have hobl:ob<we.heap.size:=Nat.lt_of_lt_of_le HMT.out.lt HMT.out.hB
     have HGB:=Kh (show g<BB∧g3<BB by have h1:=HGL.out;have h2:=HORD.out;have h3:=HMT.out.lt;omega)
     have HGO:=Kh (show g≠ob∧g3≠ob by have h1:=HGL.out;have h2:=HORD.out;omega)
     have HFM:=Kh (show F m=IsQ (x j)by rw[HF.out];show IsQ (flatR l C m)=_;rw[HMM.out,HM00.out,flatR_at HXL.out hlt])
     clear hbw hK hXX hz hqe hg3 hg3'
     go_upto_region 8 with(fail)
     refine rgB (fun W=>W.cell? ⟨g,o+i,none⟩=some (.slice (some ⟨g3,o3,none⟩) C c3)∧W.cell? ⟨g3,o3+j*4,none⟩=some (.bool s1)∧W.cell? ⟨g3,o3+j*4+1,none⟩=some (.slice p1 n1 c1)∧W.cell? ⟨g3,o3+j*4+2,none⟩=some (.bool t1)∧W.cell? ⟨g3,o3+j*4+3,none⟩=some (.slice q1 m1 d1)∧W.cell? ⟨ob,2,none⟩=some (.slice p m c)∧W.frozen? ⟨ob,2,none⟩=false) (fun W hb=>⟨cnx hb x2,cnx hb a0,cnx hb a1,cnx hb a2,cnx hb a3,cnx hb g2,frozen_keep hb (by rw[g2];rfl) (HMT.out.fr)⟩) (fun HSE hHeld0=>?_)
     clear x2 a0 a1 a2 a3
     refine tkE 0 ?_;refine tkE 1 ?_;refine tkE 2 ?_;refine tkE 3 ?_;refine tkE 4 ?_;refine tkE 5 ?_;refine tkE 6 ?_;refine tkE 7 ?_;refine tkE 8 ?_
     refine stE 9 rfl (fun K hK=>?_)
     focus(go_simp;(with_reducible refine(HZ1.out _ (Below.refl _ we).drew).mono ?_);rintro e w5 ⟨⟨s5,p5,n5,c5,t5,q5,m5,d5,rfl,hq5⟩,hb5⟩;have HB5:=Kh ((Below.refl _ we).drew.trans hb5:Below we.heap.size we w5);have HQ5:=Kh (show F m w5 s5 p5 n5 c5 t5 q5 m5 d5 by rw[HFM.out];exact hq5);clear hq5 hb5;(first|with_reducible refine hK.out _ _ ?_ (fun hHeld1=>?_) |(go_wp2_with fail;with_reducible refine hK.out _ _ ?_ (fun hHeld1=>?_))))
     focus((try dsimp only);exact HSE.out _ HB5.out)
     focus(clear hK K;(try simp only[Act.put,lsa,lsz,lss]))
     refine stE 10 rfl (fun K hK=>?_)
     focus(go_simp;refine hK.out _ _ ?_ (fun hHeld2=>?_))
     focus((try dsimp only);exact HSE.out _ (HB5.out.alloc HB5.out.size _))
     focus(clear hK K;(try simp only[Act.put,lsa,lsz,lss]))
     refine stE 11 rfl (fun K hK=>?_)
     focus(refine step_app2 (W:=w5) NotInt rfl (.tmp 24) (.tmp 33) _ 35 rfl Tryz.underlying24 ratInfo rfl (by decide) BB m (.slice p m c) xs [.bool s5,.slice p5 n5 c5,.bool t5,.slice q5 m5 d5] (by rfl) (HKK.out _ HB5.out) (by rfl) rfl (one4 _ _ _ _ _ _ _ _) (by omega) (by omega) (Nat.le_trans HMT.out.hB HB5.out.size) (ni4 _ _ _ _ _ _ _ _) niz ?_;intro v9 w9 hown9 hgr9 hat9;obtain⟨p9,c9,rfl⟩:=own_slice hown9.1;have HO9:=Kh (OwnQ.push (F:=F) (W:=w5) HGS.out (HKK.out _ HB5.out) (HXK.out _ HB5.out) HQ5.out hown9 hgr9);obtain⟨d2,df,hm9⟩:=MatAt.more HGS.out (HMT.out.keep HGS.out HB5.out) (HCL.out _ HB5.out) (HKK.out _ HB5.out).1 HO9.out hgr9;have HM9:=Kh hm9;have hb9:Below BB we w9:=own_below (HB5.out.mono HMT.out.hB) (HKK.out _ HB5.out).1 hgr9 (Nat.le_refl _) (Nat.le_trans HMT.out.hB HB5.out.size);have HSP:=Kh (And.intro d2 df);have HB9:=Kh hb9;have HG9:=Kh ((grown_own (HGW.out.trans (but_below ob HB5.out)) hgr9 HBB.out.symm (fun b hb=>own_ge (HKK.out _ HB5.out).1 hb.symm)).trans (but_put w9 ob 2 (.slice p9 (m+1) c9)));clear hown9 hgr9 hat9 hb9 hm9;(first|with_reducible refine hK.out _ _ ?_ (fun hHeld3=>?_) |(go_wp2_with fail;with_reducible refine hK.out _ _ ?_ (fun hHeld3=>?_))))
     focus((try dsimp only);exact⟨(HB9.out.cell (p:=⟨g,o+i,none⟩) HGB.out.1).trans (HSE.out _ (Below.refl _ we)).1,(HB9.out.cell (p:=⟨g3,o3+j*4,none⟩) HGB.out.2).trans (HSE.out _ (Below.refl _ we)).2.1,(HB9.out.cell (p:=⟨g3,o3+j*4+1,none⟩) HGB.out.2).trans (HSE.out _ (Below.refl _ we)).2.2.1,(HB9.out.cell (p:=⟨g3,o3+j*4+2,none⟩) HGB.out.2).trans (HSE.out _ (Below.refl _ we)).2.2.2.1,(HB9.out.cell (p:=⟨g3,o3+j*4+3,none⟩) HGB.out.2).trans (HSE.out _ (Below.refl _ we)).2.2.2.2.1,HSP.out⟩)
     focus(clear hK K;(try simp only[Act.put,lsa,lsz,lss]))
     refine tkE 12 ?_
     refine laE 13 rfl (fun K hK=>?_)
     go_simp
     refine hK.out _ _ ?_
     clear hK K
     (try simp only[Act.put,lsa,lsz,lss])
     all_goals go_wp2
     all_goals go_roundw
     all_goals first
      | exact⟨j+1,m+1,by omega,by have:=HMM.out;omega,by go_num,HM9.out,HG9.out⟩
      |(simp[intOf];omega)
    ·obtain rfl:j=C:=by omega
     go_wp2
     go_roundw
     case rel=>exact⟨i+1,m,by omega,by rw[HMM.out,HM00.out,Nat.succ_mul],by go_num,HMT.out,HGW.out⟩
     case measure=>simp[intOf];omega
  ·obtain rfl:i=n:=by omega
   obtain rfl:NC=m0:=by rw[HM00.out,HNC.out]
   obtain⟨p,c,g2,hOQ⟩:=HMO.out.c2
   have HOQ:=Kh hOQ
   have a0:=HMO.out.c0
   have a1:=HMO.out.c1
   have HBW:=Kh (show Below gr w wo from below_but HBX.out HGO0.out (by have:=HBB.out;have:=HMO.out.lt;have:=HORD.out;omega) (by have:=HORD.out;omega))
   have hgo:gr≠ob:=by have:=HORD.out;omega
   have r0:=HGO0.out.cell (HX1.out.at_ 0 rfl) (fun e=>by injection e with e;exact hgo e)
   have r1:=HGO0.out.cell (HX1.out.at_ 1 rfl) (fun e=>by injection e with e;exact hgo e)
   have r2:=HGO0.out.cell (HX1.out.at_ 2 rfl) (fun e=>by injection e with e;exact hgo e)
   have hblk:=HGO0.out.block gr (by rw[HBB.out];have:=HORD.out;have:=HMO.out.lt;omega) (fun e=>by injection e with e;exact hgo e)
   have f0:=((World.frozen?_of_block (a:=⟨gr,0,none⟩) hblk).trans (HX1.out.free_ 0))
   have f1:=((World.frozen?_of_block (a:=⟨gr,1,none⟩) hblk).trans (HX1.out.free_ 1))
   have f2:=((World.frozen?_of_block (a:=⟨gr,2,none⟩) hblk).trans (HX1.out.free_ 2))
   have hstB:Stk NotU32 wx gr:=Stk.of HX1.out (by intro v hv;simp at hv;rcases hv with rfl|rfl|rfl <;> exact fun _ h=>by cases h)
   have HST:=Kh (show Stk NotU32 wo gr from⟨Nat.lt_of_lt_of_le hstB.1 HGO0.out.size,fun i u hu=>hstB.2 i u ((World.cell?_of_block (a:=⟨gr,i,none⟩) hblk).symm.trans hu)⟩)
   have hgrB:gr<BB:=by have:=HORD.out;have:=HMO.out.lt;omega
   have HGRB:=Kh hgrB
   have HE3:=Kh (put3_at (w:=wo) (R:=gr) (v0:=.int .i64 (i:Int)) (v1:=.int .i64 (C:Int)) (v2:=.slice p NC c) (by rw[r0];rfl) (by rw[r1];rfl) (by rw[r2];rfl))
   have HI3:=Kh (put3_32 HST.out (v0:=.int .i64 (i:Int)) (v1:=.int .i64 (C:Int)) (v2:=.slice p NC c) (fun _ h=>by cases h) (fun _ h=>by cases h))
   have HG3:=Kh (((but_put wo gr 0 (.int .i64 (i:Int))).trans (but_put _ gr 1 (.int .i64 (C:Int)))).trans (but_put _ gr 2 (.slice p NC c)))
   clear hblk hstB hOQ
   go_wp2
   have e0:=HE3.out.1
   have e1:=HE3.out.2.1
   have e2:=HE3.out.2.2
   try simp only[Exit.inBlock,Exit.then]
   refine bodyPost_ret (by simp[results,Tryz.results112,go_sem,e0,e1,e2];try rfl) rfl ?_
   refine⟨⟨_,rfl,?_⟩,?_⟩
   ·have h1:=(HOQ.out.box HGS.out HI3.out HG3.out HGRB.out).base (show w.heap.size≤BB by have:=HBE.out;have:=HGRB.out;omega)
    rw[HF.out]at h1
    exact h1
   ·have h9:=below_but HBW.out HG3.out (by have:=HBW.out.size;have:=HBE.out;omega) (Nat.le_refl gr)
    have h8:=HBE.out
    exact h8.symm▸h9
def EchRet (n m:Nat) (rows:Nat→Nat→Int) (B:Nat) (w':World) (e:Ending):Prop:=∃ vA vp ld L R O A c,e=.returned (.tuple #[.agg #[.int .i64 ((pvs ld n).length:Nat),.int .i64 n,vA],vp])∧GjAt n 16777216 rows m c ld L R O A∧(c=n∨∀ a,¬ A a)∧OwnQ (fun j=>IsQ (flatR ((pvs ld n).map O) n j)) w' B vA ((pvs ld n).length*n)∧OwnN (pvs ld n) w' B vp
theorem OwnN.base {l:List Nat} {w:World} {B B':Nat} {v:Value} (h:OwnN l w B v) (hB:B'≤B):OwnN l w B' v:=by
 refine⟨⟨h.1.1,?_⟩,h.2⟩
 rcases h.1.2 with h |⟨g',cap,cs,e,hB',hr⟩
 ·exact .inl h
 ·exact .inr ⟨g',cap,cs,e,Nat.le_trans hB hB',hr⟩
theorem nd_1e9 {x:Int} (h:x.natAbs≤16777216):hq (x:Rat)≤1000000000:=by
 rw[hq_int]
 have h1:nd x.natAbs≤16777216:=Nat.le_trans (nd_small (Nat.le_trans h (by decide))) (by decide)
 omega
theorem c_Echelon (n m RC:Nat) (rows:Nat→Nat→Int) (g o cap:Nat) (w:World) (h0n:0<n) (hn:n≤72) (hm0:0<m) (hm:m≤1000) (hb:∀ i q,(rows i q).natAbs≤16777216) (h0:∀ i q,n≤q→rows i q=0) (hRC:m*n=RC)
  (hv:∀ i q,i<m→q<n→QE (IsQ ((rows i q:Int):Rat)) w g (o+(i*n+q)*4)) (hg:g<w.heap.size):
  Calls Tryz.prog 59 #[.agg #[.int .i64 m,.int .i64 n,.slice (some ⟨g,o,none⟩) RC cap]] w fun e w'=>EchRet n m rows w.heap.size w' e∧Below w.heap.size w w':=by
 have HR:=Kh (fun W (hbW:Below w.heap.size w W)=>c_Rows09 m n RC g o cap (fun i q=>((rows i q:Int):Rat)) W (fun i q hi hq1=>(hv i q hi hq1).keep (IsQ.solid _) hbW) (Nat.lt_of_lt_of_le hg hbW.size) (fun i q _ _=>nd_1e9 (hb i q)) hRC hm (by omega) h0n)
 have HB:=Kh hb
 have H0:=Kh h0
 have HTOP:=Kh (top_72 (n:=n) (B:=16777216) hn (Nat.le_refl _))
 clear hb h0 hRC hv
 go_enter Tryz.func59,Tryz.ntmps59
 go_upto_region 1 with(fail)
 obtain⟨wx,hwx,X0,X1,hb0⟩:=bx2 w #[.int .i64 m,.int .i64 n,.slice (some ⟨g,o,none⟩) RC cap] 51 #[.int .i64 0,.int .i64 0,.slice none 0 0] 51
 rw[hwx]
 obtain⟨bm,hbm⟩:∃ x,w.heap.size=x:=⟨_,rfl⟩
 obtain⟨gr,hgr⟩:∃ x,w.heap.size+1=x:=⟨_,rfl⟩
 rw[hgr]at X1 ⊢
 have HXB:=Kh hb0
 rw[hbm]at X0 hg ⊢
 have HORD:=Kh (show gr=bm+1 by omega)
 have HBM:=Kh hbm
 have HX1:=Kh X1
 have HX0:=Kh X0
 have HS1:=Kh (show ∀ W,Below wx.heap.size wx W→(W.cell? ⟨bm,0,none⟩=some (.int .i64 m)∧W.cell? ⟨bm,1,none⟩=some (.int .i64 n)∧W.cell? ⟨bm,2,none⟩=some (.slice (some ⟨g,o,none⟩) RC cap))from fun W hbW=>⟨cell_next hbW (X0.at_ 0 rfl),cell_next hbW (X0.at_ 1 rfl),cell_next hbW (X0.at_ 2 rfl)⟩)
 have hS0:=HS1.out _ (Below.refl _ wx).drew
 have HK1:=Kh (show ∀ wb,Below wx.drew.heap.size wx.drew wb→Below wx.heap.size wx wb from fun wb hb=>(Below.refl _ wx).drew.trans hb)
 have HK2:=Kh (show ∀ wa wb,Below wx.heap.size wx wa→Below wa.heap.size wa wb→Below wx.heap.size wx wb from fun wa wb h1 h2=>h1.trans (h2.mono h1.size))
 have HRX:=Kh (HR.out wx.drew (hb0.trans ((Below.refl _ wx).drew.mono hb0.size)))
 have HWS:=Kh (show w.heap.size≤wx.heap.size from hb0.size)
 clear hwx hb0 X0 X1 hbm hgr hg
 go_region_held3 (fun W=>W.cell? ⟨bm,0,none⟩=some (.int .i64 m)∧W.cell? ⟨bm,1,none⟩=some (.int .i64 n)∧W.cell? ⟨bm,2,none⟩=some (.slice (some ⟨g,o,none⟩) RC cap))
  (first|with_reducible exact hS0|with_reducible exact HSF.out|with_reducible exact HSA.out)
  (first
   |(go_at_call 111;(with_reducible refine HRX.out.mono ?_);rintro e w5 ⟨⟨v5,rfl,ho5⟩,hb5⟩;have HB5:=Kh (HK1.out _ hb5);have HSF:=Kh (HS1.out _ HB5.out);have HO5:=Kh (show OwnG (rowsL rows m) n w5 wx.drew.heap.size v5 from ho5);clear ho5 hb5)
   |(go_at_call 110;(with_reducible refine(c_Reduce09 n m rows _ _ _ h0n hn hm0 hm HB.out H0.out HO5.out).mono ?_);rintro e w6 ⟨hr6,hb6⟩;obtain⟨vo,vp,ld,L,R,O,A,c,rfl,hgj,hfin,hoo,hop⟩:=hr6;have HB6:=Kh (HK2.out _ _ HB5.out hb6);have HSA:=Kh (HS1.out _ HB6.out);have HGJ:=Kh hgj;have HFIN:=Kh hfin;have HOO:=Kh hoo;have HOP:=Kh hop;have H5L:=Kh HB5.out.size;clear hb6 hgj hfin hoo hop))
 have x1:=HSA.out.2.1
 have HOF:=Kh (c_Of09 (pvs ld n).length n ((pvs ld n).length*n) ((pvs ld n).map O) vo w6 (List.length_map _) HOO.out.gl (fun x hx q=>by
  obtain⟨p,hp,rfl⟩:=List.mem_map.1 hx
  have h1:=HGJ.out.out_size (by omega) H0.out (pvs_mem.1 hp).2 q
  have h2:=HTOP.out
  omega) rfl (by have:=pvs_length ld n;omega) (by omega))
 go_wp2_with fail
 refine HOF.out.mono ?_
 rintro e w7 ⟨⟨v7,rfl,ho7⟩,hb7⟩
 obtain⟨p7,c7,rfl⟩:=ql_value ho7.ql
 have hbx7:=HK2.out _ _ HB6.out hb7
 have r0:=cell_next hbx7 (HX1.out.at_ 0 rfl)
 have r1:=cell_next hbx7 (HX1.out.at_ 1 rfl)
 have r2:=cell_next hbx7 (HX1.out.at_ 2 rfl)
 have f0:=frozen_keep hbx7 (by rw[HX1.out.at_ 0 rfl];rfl) (HX1.out.free_ 0)
 have f1:=frozen_keep hbx7 (by rw[HX1.out.at_ 1 rfl];rfl) (HX1.out.free_ 1)
 have f2:=frozen_keep hbx7 (by rw[HX1.out.at_ 2 rfl];rfl) (HX1.out.free_ 2)
 have hstB:Stk NotU32 wx gr:=Stk.of HX1.out (by intro v hv;simp at hv;rcases hv with rfl|rfl|rfl <;> exact fun _ h=>by cases h)
 have HE3:=Kh (put3_at (w:=w7) (R:=gr) (v0:=.int .i64 ((pvs ld n).length:Nat)) (v1:=.int .i64 (n:Int)) (v2:=.slice p7 ((pvs ld n).length*n) c7) (by rw[r0];rfl) (by rw[r1];rfl) (by rw[r2];rfl))
 have HI3:=Kh (put3_32 (hstB.next hbx7) (v0:=.int .i64 ((pvs ld n).length:Nat)) (v1:=.int .i64 (n:Int)) (v2:=.slice p7 ((pvs ld n).length*n) c7) (fun _ h=>by cases h) (fun _ h=>by cases h))
 have HG3:=Kh (((but_put w7 gr 0 (.int .i64 ((pvs ld n).length:Nat))).trans (but_put _ gr 1 (.int .i64 (n:Int)))).trans (but_put _ gr 2 (.slice p7 ((pvs ld n).length*n) c7)))
 have HO7:=Kh ho7
 have HP7:=Kh (HOP.out.keep hb7)
 have HB7:=Kh (show Below w.heap.size w w7 from HXB.out.trans (hbx7.mono HWS.out))
 have H67:=Kh (show wx.heap.size≤w6.heap.size from HB6.out.size)
 have H5W:=Kh (show wx.heap.size≤w5.heap.size from H5L.out)
 have HGL:=Kh (show gr<wx.heap.size from HX1.out.lt)
 clear ho7 hb7 hbx7 hstB x1
 go_wp2
 have e0:=HE3.out.1
 have e1:=HE3.out.2.1
 have e2:=HE3.out.2.2
 try simp only[Exit.inBlock,Exit.then]
 refine bodyPost_ret (by simp[results,Tryz.results59,go_sem,e0,e1,e2];try rfl) rfl ?_
 refine⟨⟨_,_,ld,L,R,O,A,c,rfl,HGJ.out,HFIN.out,?_,?_⟩,?_⟩
 ·exact(HO7.out.box (fun _=>IsQ.solid _) HI3.out HG3.out (by have h1:=HGL.out;have h2:=H67.out;omega)).base (by have h1:=HWS.out;have h2:=H67.out;have h3:=HBM.out;omega)
 ·have h1:=OwnK.but HP7.out HG3.out (fun g e1 e2=>by injection e2 with e2;have h1:=(HP7.out.ge e1).1;have h2:=HGL.out;have h3:=H5W.out;omega)
  exact OwnN.base h1 (Nat.le_trans HWS.out H5W.out)
 ·exact below_but HB7.out HG3.out (by have:=HB7.out.size;omega) (show w.heap.size≤gr by have h1:=HORD.out;have h2:=HBM.out;omega)
def IsRow (l:List Nat) (x:Nat) (r:Int):Prop:=(r=-1∧x∉l)∨∃ i:Nat,r=(i:Int)∧l[i]?=some x
theorem not_mem_at {l:List Nat} {x:Nat} (h:∀ j,j<l.length→l[j]?≠some x):x∉l:=fun hm=>by
 obtain⟨i,hi⟩:=List.mem_iff_getElem?.1 hm
 exact h i (by rcases Nat.lt_or_ge i l.length with h1|h1;exact h1;rw[List.getElem?_eq_none h1]at hi;cases hi) hi
theorem c_row41 (l:List Nat) (v:Value) (x:Nat) (B:Nat) (w:World) (h:NL l w B v) (hl:l.length≤1000) (hx:x≤1000000) (hs:∀ y∈l,y≤1000000):
  Calls Tryz.prog 60 #[v,.int .i64 x] w fun e w'=>(∃ r:Int,e=.returned (.int .i64 r)∧IsRow l x r)∧w'=w:=by
 obtain⟨p,c,rfl⟩:=h.val
 have HN:=Kh h
 obtain⟨n,hn⟩:∃ n,l.length=n:=⟨_,rfl⟩
 rw[hn]at HN hl ⊢
 have HL:=Kh hn
 have HS:=Kh hs
 clear h hn hs
 go_enter Tryz.func60,Tryz.ntmps60
 go_wp2_with fail
 go_loopw [5] (fun ii wr=>∃ k:Nat,k≤n∧ii=.int .i64 k∧wr=w∧∀ j,j<k→l[j]?≠some x) (fun ii _=>n - (intOf ii).toNat)
 case atStart=>exact⟨0,Nat.zero_le _,rfl,rfl,fun j hj=>absurd hj (Nat.not_lt_zero _)⟩
 case round=>
  obtain⟨k,hk,rfl,rfl,hno⟩:=hrel
  have HNO:=Kh hno
  clear hno
  by_cases hlt:k<n
  ·have hki:(k:Int)<(n:Int):=by omega
   obtain⟨g,cap,e,_,_,_,hr⟩:=HN.out.resolve_left (fun h=>by have h1:=HL.out;rw[h.1]at h1;simp at h1;omega)
   rw[HL.out]at e
   injection e with e1 _ e2
   subst e1
   subst e2
   obtain⟨y,hy⟩:∃ y,l[k]?=some y:=⟨_,List.getElem?_eq_getElem (by rw[HL.out];exact hlt)⟩
   have a0:=hr k y hy
   have HY:=Kh hy
   have hys:=HS.out y (List.mem_of_getElem? hy)
   clear hr hy
   by_cases hyx:y=x
   ·subst hyx
    go_wp2
    go_ret
    exact⟨⟨_,rfl,.inr ⟨k,rfl,HY.out⟩⟩,rfl⟩
   ·have hyi:((y:Int)==(x:Int))=false:=by rw[beq_eq_false_iff_ne];omega
    have hyj:¬ (y:Int)=(x:Int):=by omega
    go_wp2
    go_roundw
    case rel=>exact⟨k+1,by omega,by go_num,trivial,fun j hj=>by
     by_cases hjk:j=k
     ·subst hjk
      rw[HY.out]
      intro e
      injection e with e
      exact hyx e
     ·exact HNO.out j (by omega)⟩
    case measure=>simp[intOf];omega
  ·obtain rfl:n=k:=by omega
   go_wp2
   go_ret
   exact⟨⟨_,rfl,.inl ⟨rfl,not_mem_at (by rw[HL.out];exact HNO.out)⟩⟩,rfl⟩
structure GBox (K:Value→Prop) (E sz:Nat) (w:World) (gm BB j n:Nat) (l xs:List Value):Prop where
 lt:gm<BB
 hB:BB≤w.heap.size
 cell:∀ i v,i≠j→l[i]?=some v→w.cell? ⟨gm,i,none⟩=some v
 cj:∃ p c,w.cell? ⟨gm,j,none⟩=some (.slice p n c)∧OwnK K w BB E sz (.slice p n c) n xs
 fr:∀ i,w.frozen? ⟨gm,i,none⟩=false
 stk:Stk NotU32 w gm
theorem GBox.keep {K:Value→Prop} {E sz:Nat} {w w':World} {gm BB j n:Nat} {l xs:List Value} (h:GBox K E sz w gm BB j n l xs) (hb:Below w.heap.size w w'):GBox K E sz w' gm BB j n l xs:=by
 obtain⟨p,c,e2,h2⟩:=h.cj
 exact⟨h.lt,Nat.le_trans h.hB hb.size,fun i v hi e=>cell_next hb (h.cell i v hi e),⟨p,c,cell_next hb e2,h2.keep hb⟩,fun i=>(World.frozen?_of_block (a:=⟨gm,i,none⟩) (hb.block gm h.stk.1)).trans (h.fr i),h.stk.next hb⟩
theorem GBox.start {K:Value→Prop} {E sz:Nat} {w:World} {gm BB j:Nat} {t:TypeId} {l:List Value} (X:Blk w gm t l.toArray) (hB:w.heap.size=BB) (hj:l[j]?=some (.slice none 0 0)) (hl:∀ v∈l,NotU32 v):GBox K E sz w gm BB j 0 l []:=
 ⟨hB▸X.lt,Nat.le_of_eq hB.symm,fun i v _ e=>X.at_ i (by simpa using e),⟨none,0,X.at_ j (by simpa using hj),OwnK.nil _ _ _ _ _⟩,fun i=>X.free_ i,Stk.of X (by simpa using hl)⟩
theorem GBox.more {K:Value→Prop} {E sz:Nat} {W w':World} {gm BB j n n':Nat} {l xs xs':List Value} {p:Option Addr} {c:Nat} {p':Option Addr} {c':Nat} (h:GBox K E sz W gm BB j n l xs) (hv:W.cell? ⟨gm,j,none⟩=some (.slice p n c))
  (h1:W.ownsRow BB E sz (.slice p n c) n xs) (hO:OwnK K w' BB E sz (.slice p' n' c') n' xs') (hg:W.grownBy w' (Value.slice p n c).ownBlock):
  w'.cell? ⟨gm,j,none⟩=some (.slice p n c)∧(∀ i,w'.frozen? ⟨gm,i,none⟩=false)∧GBox K E sz (w'.setCell ⟨gm,j,none⟩ (.slice p' n' c')) gm BB j n' l xs':=by
 have hne:some gm≠(Value.slice p n c).ownBlock:=fun e=>by
  have:=own_ge h1 e
  have:=h.lt
  omega
 have hgo:gm<W.heap.size:=Nat.lt_of_lt_of_le h.lt h.hB
 have hblk:=hg.block gm hgo (fun e=>hne e)
 have d2:w'.cell? ⟨gm,j,none⟩=some (.slice p n c):=(World.cell?_of_block (a:=⟨gm,j,none⟩) hblk).trans hv
 have df:∀ i,w'.frozen? ⟨gm,i,none⟩=false:=fun i=>(World.frozen?_of_block (a:=⟨gm,i,none⟩) hblk).trans (h.fr i)
 have hst:Stk NotU32 w' gm:=⟨Nat.lt_of_lt_of_le hgo hg.size,fun i u hu=>h.stk.2 i u ((World.cell?_of_block (a:=⟨gm,i,none⟩) hblk).symm.trans hu)⟩
 refine⟨d2,df,h.lt,by simpa using Nat.le_trans h.hB hg.size,fun i v hi e=>?_,⟨p',c',World.cell?_setCell_same' _ _ _ (by rw[d2];rfl),OwnK.but hO (but_put w' gm j _) (fun g e1 e2=>?_)⟩,fun i=>frozen_set (df i),stk_put hst _ _ (fun _ h=>by cases h)⟩
 ·rw[World.cell?_setCell_other _ _ _ _ (by simp <;> omega)];exact(World.cell?_of_block (a:=⟨gm,i,none⟩) hblk).trans (h.cell i v hi e)
 ·injection e2 with e2
  have:=own_ge hO.1 e1.symm
  have:=h.lt
  omega
theorem but32 {w w':World} {g:Nat} (hs:Stk NotU32 w g) (hg:w.grownBy w' (some g)):I32 w w':=
 I32.grown (K:=NotU32) (v:=.slice (some ⟨g,0,none⟩) 1 1) (fun n h=>h n rfl) (fun g' e=>by
  have e2:g=g':=by simpa [Value.ownBlock] using e
  exact e2▸hs) (by simpa [Value.ownBlock] using hg)
theorem QE.butQ {F:FP} (hF:Solid F) {w w':World} {g i R:Nat} (h:QE F w g i) (h32:I32 w w') (hg:w.grownBy w' (some R)) (hne:g≠R):QE F w' g i:=by
 obtain⟨s,p,n,c,t,q,m,d,h0,h1,h2,h3,h4⟩:=h
 have hk:∀ j v,w.cell? ⟨g,j,none⟩=some v→w'.cell? ⟨g,j,none⟩=some v:=fun j v e=>hg.cell e (fun e1=>by injection e1 with e1;exact hne e1)
 exact⟨s,p,n,c,t,q,m,d,hk _ _ h0,hk _ _ h1,hk _ _ h2,hk _ _ h3,hF _ _ _ _ _ _ _ _ _ _ h32 h4⟩
end Go.Proofs.YthikonjlgljikaaGreatDoor
