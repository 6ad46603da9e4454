/- Contracts of matrix.Echelon and Rank. -/
import Derived.Test.YthikonjlgljikaaGreatDoorS35
import Derived.Test.YthikonjlgljikaaGreatDoorS31
set_option linter.unusedSimpArgs false
set_option maxRecDepth 100000
set_option maxHeartbeats 8000000
namespace Go.Proofs.YthikonjlgljikaaGreatDoor
open Go.RowKit Eli
def EchR (rows:Nat→Nat→Int) (m C:Nat) (e:Ending):Prop:=∃ (t:Nat) (p:Option Addr) (n c:Nat) (p2:Option Addr) (cp:Nat),e=.returned (.tuple #[.agg #[.int .i64 (t:Int),.int .i64 (C:Int),.slice p n c],.slice p2 t cp,.int .i64 0])∧t+(frs (elim C rows m) C).length=C
theorem c_mEchelon (R C RC gA oA cA:Nat) (U:Nat→Int) (w:World) (hgA:gA<w.heap.size) (hX:∀ j,j<RC→QE (IsQ ((U j:Int):Rat)) w gA (oA+j*4)) (hRC:R*C=RC) (hR:R≤1000) (hC0:0<C) (hC:C≤72) (hU:∀ j,(U j).natAbs≤16777216):
  Calls Tryz.prog 80 #[.agg #[.int .i64 R,.int .i64 C,.slice (some ⟨gA,oA,none⟩) RC cA]] w fun e w'=>EchR (rowF C U) R C e∧Below w.heap.size w w':=by
 have HGA:=Kh hgA
 have HX:=Kh hX
 have HRC:=Kh hRC
 have HU:=Kh hU
 have HUS:=Kh (show ∀ j,hq ((U j:Int):Rat)≤1000000000 from fun j=>by
  rw[hq_int]
  have h1:=hU j
  have h2:=nd_small (x:=U j) (by omega)
  omega)
 clear hgA hX hRC hU
 go_enter Tryz.func80,Tryz.ntmps80
 go_wp2_with fail
 obtain⟨w0,hw0,XA,XB,hb0⟩:=bx2 w #[.int .i64 R,.int .i64 C,.slice (some ⟨gA,oA,none⟩) RC cA] 51 #[.int .i64 0,.int .i64 0,.slice none 0 0] 51
 rw[hw0]
 have hsa:=XA.lt
 have hsb:=XB.lt
 refine(c_Valid R C RC _ cA w0 (by omega) (by omega) HRC.out).mono ?_
 rintro e w1 ⟨rfl,hb1⟩
 obtain⟨ga,hga⟩:∃ x,w.heap.size=x:=⟨_,rfl⟩
 obtain⟨g2,hg2⟩:∃ x,w.heap.size+1=x:=⟨_,rfl⟩
 have HGA2:=Kh hga
 have HG22:=Kh hg2
 rw[hg2]at XB hsb ⊢
 rw[hga]at XA hsa ⊢
 have XA1:=XA.below_ hb1 XA.lt
 have XB1:=XB.below_ hb1 XB.lt
 have HB1:=Kh (show Below w.heap.size w w1 from hb0.trans (hb1.mono hb0.size))
 have HA1:=Kh XA1
 have HBB1:=Kh XB1
 have x0:=XA1.at_ 0 rfl
 have x1:=XA1.at_ 1 rfl
 have x2:=XA1.at_ 2 rfl
 clear hw0 XA XB hb0 hb1 XA1 XB1 hga hg2 hsa hsb
 go_wp2_with fail
 refine(c_load R C RC gA oA cA (fun j=>((U j:Int):Rat)) (fun i q=>((rowF C U i q:Int):Rat)) w1 (Nat.lt_of_lt_of_le HGA.out HB1.out.size) (fun j hj=>(HX.out j hj).keep (IsQ.solid _) HB1.out) HRC.out (by omega) (by omega) (fun j _=>HUS.out j) (fun i q hq=>by unfold rowF;rw[if_pos hq])).mono ?_
 rintro e w2 ⟨⟨G,gs,rfl,hgm⟩,hb2⟩
 have y1:=cell_next hb2 x1
 clear x0 x1 x2
 have HGM:=Kh hgm
 have HB2:=Kh hb2
 clear hgm hb2
 go_wp2_with fail
 refine(c_mreduce (rowF C U) (fun i q=>((rowF C U i q:Int):Rat)) R C G w1.heap.size gs w2 (fun _ _=>rfl) (rowF_small HU.out) (rowF_zero _ _) HGM.out HB2.out.size hR hC).mono ?_
 rintro e w3 ⟨p,cp,gd,dv,c,t,F',gs',ld,L,R',O,rfl,hga,he,hgm,_,hb3⟩
 have hb13:Below w1.heap.size w1 w3:=HB2.out.trans hb3
 have XA3:=bk HA1 hb13
 have XB3:=bk HBB1 hb13
 have HRK:=Kh (hga.rank (by omega) (rowF_small HU.out) (rowF_zero _ _) he)
 have htR:t≤R:=hga.le
 have HSTO:=Kh (fun cap w5 (hb:Below w3.heap.size w3 w5)=>c_mstore F' R C t G cap gs' w1.heap.size w5 (hgm.keep hb) htR (by omega) hC0 (by omega))
 have HB3:=bt HB1 hb13
 have y1:=XA3.at_ 1 rfl
 have z0:=XB3.at_ 0 rfl
 have z1:=XB3.at_ 1 rfl
 have z2:=XB3.at_ 2 rfl
 have k0:=XB3.free_ 0
 have k1:=XB3.free_ 1
 have k2:=XB3.free_ 2
 have HXB:=Kh XB3
 have hti:(t:Int)≤(R:Int):=by omega
 clear hga he hgm hb3 hb13 XA3 XB3
 go_upto_region 5 with(fail)
 refine rgX [7,9,10] (fun W=>W.cell? ⟨ga,1,none⟩=some (.int .i64 (C:Int))∧W.cell? ⟨g2,0,none⟩=some (.int .i64 0)∧W.frozen? ⟨g2,0,none⟩=false∧W.cell? ⟨g2,1,none⟩=some (.int .i64 0)∧W.frozen? ⟨g2,1,none⟩=false∧W.cell? ⟨g2,2,none⟩=some (.slice none 0 0)∧W.frozen? ⟨g2,2,none⟩=false) (fun W hb=>⟨cnx hb y1,cnx hb z0,frozen_keep hb (by rw[z0];rfl) (k0),cnx hb z1,frozen_keep hb (by rw[z1];rfl) (k1),cnx hb z2,frozen_keep hb (by rw[z2];rfl) (k2)⟩) (fun HSE hHeld0=>?_)
 clear y1 z0 z1 z2 k0 k1 k2
 refine tkX 0 ?_;refine tkX 1 ?_;refine tkX 2 ?_;refine tkX 3 ?_;refine tkX 4 ?_;refine tkX 5 ?_;refine tkI 7 ?_
 refine stX 6 rfl (fun K hK=>?_)
 focus(go_simp;(refine(HSTO.out _ _ (Below.refl _ w3).drew).mono ?_);rintro e w4 ⟨⟨v4,rfl,ho4⟩,hb4⟩;obtain⟨p4,c4,rfl⟩:=own_slice ho4.choose_spec.1.1;have HB4:=Kh ((Below.refl _ w3).drew.trans hb4:Below w3.heap.size w3 w4);clear ho4 hb4;(first|with_reducible refine hK.out _ _ ?_ (fun hHeld1=>?_) |(go_wp2_with fail;with_reducible refine hK.out _ _ ?_ (fun hHeld1=>?_))))
 focus((try dsimp only);exact HSE.out _ HB4.out)
 focus(clear hK K;(try simp only[Act.put,lsa,lsz,lss]))
 refine snX 8 rfl (fun K hK=>?_)
 go_simp
 refine hK.out _ _ ?_
 clear hK K
 (try simp only[Act.put,lsa,lsz,lss])
 refine tkJ 9 ?_;refine tkJ 10 ?_
 refine dnX ?_
 have X7:=(HXB.out.below_ HB4.out HXB.out.lt).set_ 0 (.int .i64 (t:Int))
 have X8:=X7.set_ 1 (.int .i64 (C:Int))
 have X9:=X8.set_ 2 (.slice p4 (t*C) c4)
 have e0:=X7.at_ 0 rfl
 have e1:=X8.at_ 1 rfl
 have e2:=X9.at_ 2 rfl
 have hge:w.heap.size≤g2:=by have:=HG22.out;omega
 have HB9:=Kh ((((HB3.out.trans (HB4.out.mono HB3.out.size)).setCell (p:=⟨g2,0,none⟩) hge (.int .i64 (t:Int))).setCell (p:=⟨g2,1,none⟩) hge (.int .i64 (C:Int))).setCell (p:=⟨g2,2,none⟩) hge (.slice p4 (t*C) c4))
 go_wp2
 try simp only[Exit.inBlock,Exit.then]
 refine bodyPost_ret (by simp[results,Tryz.results80,go_sem,e0,e1,e2];try rfl) rfl ?_
 exact⟨⟨t,_,_,_,_,_,rfl,HRK.out⟩,HB9.out⟩
theorem c_mRank (R C RC gA oA cA:Nat) (U:Nat→Int) (w:World) (hgA:gA<w.heap.size) (hX:∀ j,j<RC→QE (IsQ ((U j:Int):Rat)) w gA (oA+j*4)) (hRC:R*C=RC) (hR:R≤1000) (hC0:0<C) (hC:C≤72) (hU:∀ j,(U j).natAbs≤16777216):
  Calls Tryz.prog 41 #[.agg #[.int .i64 R,.int .i64 C,.slice (some ⟨gA,oA,none⟩) RC cA]] w fun e w'=>(∃ t:Nat,e=.returned (.tuple #[.int .i64 t,.int .i64 0])∧t+(frs (elim C (rowF C U) R) C).length=C)∧Below w.heap.size w w':=by
 have HEC:=Kh (fun W (hb:Below w.heap.size w W)=>c_mEchelon R C RC gA oA cA U W (Nat.lt_of_lt_of_le hgA hb.size) (fun j hj=>(hX j hj).keep (IsQ.solid _) hb) hRC hR hC0 hC hU)
 clear hgA hX hRC hU
 go_enter Tryz.func41,Tryz.ntmps41
 go_wp2_with fail
 obtain⟨w0,hw0⟩:∃ w0,w.alloc (.cells #[.int .i64 R,.int .i64 C,.slice (some ⟨gA,oA,none⟩) RC cA] 51)=w0:=⟨_,rfl⟩
 have hb0:Below w.heap.size w w0:=hw0▸(Below.refl _ _).alloc (Nat.le_refl _) _
 rw[hw0]
 refine(HEC.out w0 hb0).mono ?_
 rintro e w1 ⟨⟨t,p1,n1,c1,p,cp,rfl,ht⟩,hb1⟩
 have HB1:=Kh (hb0.trans (hb1.mono hb0.size))
 have HT:=Kh ht
 clear hw0 hb0 hb1 ht
 go_wp2
 (first|go_ret2|go_ret)
 exact⟨⟨t,rfl,HT.out⟩,HB1.out.alloc HB1.out.size _⟩
theorem c_lawElse_bad (N k D:Int) (w:World) (hT:Tab w) (hck:Pl.check N k D≠0):
  Calls Tryz.prog 9 #[.agg #[.int .i64 N,.int .i64 k,.int .i64 D]] w fun e w'=>e=.returned (.bool true)∧Below w.heap.size w w':=by
 have HLA:=Kh (fun W=>c_Large_bad N k D W hck)
 have HNE:=Kh (fun W=>c_New_check N k D W hck)
 have HRE:=Kh (fun W=>c_Relations_bad N k D W hck)
 obtain⟨er,her⟩:∃ er,Pl.check N k D=er:=⟨_,rfl⟩
 rw[her]at hck HNE HRE
 have hne:(er != 0)=true:=by simpa using hck
 have HT:=Kh hT
 clear her hck hT
 go_enter Tryz.func9,Tryz.ntmps9
 go_wp2_with fail
 obtain⟨w0,hw0,X0,hb0⟩:=bx1 w #[.int .i64 N,.int .i64 k,.int .i64 D] 23
 rw[hw0]
 refine(c_awake w0 (HT.out.below hb0)).mono ?_
 rintro e w1 ⟨rfl,hb1⟩
 have X1:=X0.below_ hb1 X0.lt
 have HB1:=Kh (hb0.trans (hb1.mono hb0.size))
 have x0:=X1.at_ 0 rfl
 have x1:=X1.at_ 1 rfl
 have x2:=X1.at_ 2 rfl
 have HX1:=Kh X1
 clear hw0 X0 hb0 hb1 X1
 go_wp2_with fail
 refine(HLA.out w1).mono ?_
 rintro e w2 ⟨rfl,hb2⟩
 have X2:=bk HX1 hb2
 have HB2:=bt HB1 hb2
 clear x0 x1 x2 hb2
 have x0:=X2.at_ 0 rfl
 have x1:=X2.at_ 1 rfl
 have x2:=X2.at_ 2 rfl
 have HX2:=Kh X2
 clear X2 HX1
 go_wp2_with fail
 refine(HNE.out w2).mono ?_
 rintro e w3 ⟨rfl,hb3⟩
 have HB3:=bt HB2 hb3
 have X3:=bk HX2 hb3
 clear x0 x1 x2 hb3
 have x0:=X3.at_ 0 rfl
 have x1:=X3.at_ 1 rfl
 have x2:=X3.at_ 2 rfl
 clear X3 HX2
 go_wp2_with fail
 refine(HRE.out w3).mono ?_
 rintro e w4 ⟨rfl,hb4⟩
 have HB4:=bt HB3 hb4
 clear x0 x1 x2 hb4
 go_wp2
 go_ret
 exact⟨rfl,HB4.out.alloc HB4.out.size _⟩
theorem c_lawElse_ok (n wt:Nat) (D:Int) (w:World) (hT:Tab w) (hck:Pl.check n ((wt:Int)+2) D=0):
  Calls Tryz.prog 9 #[.agg #[.int .i64 n,.int .i64 ((wt:Int)+2),.int .i64 D]] w fun e w'=>e=.returned (.bool true)∧Below w.heap.size w w':=by
 obtain⟨h1,h2,h3,h4,h5,h6⟩:=check_zero hck
 have HLA:=Kh (fun W=>c_Large n wt D W hck)
 have HNW:=Kh (fun W (hb:Below w.heap.size w W) (hC:cntF n wt≤72)=>c_New n wt D W (hT.below hb) hck hC)
 have HRE:=Kh (fun W (hb:Below w.heap.size w W) (hC:cntF n wt≤72)=>show Calls Tryz.prog 33 #[.agg #[.int .i64 n,.int .i64 ((wt:Int)+2),.int .i64 D]] W fun e w'=>RelRet (2*cntF n wt) (cntF n wt) (relF n wt D) e w'∧Below W.heap.size W w' from
  c_Relations_ok n wt D (pts n (n*n)) (cntF n wt) W (hT.below hb) (by omega) (by omega) (by omega) (by omega) (by omega) hck (kro3 D) rfl rfl (cntF_pos (by omega)) hC)
 have HCT:=Kh (fun W (hb:Below w.heap.size w W)=>c_MCount n wt D W (hT.below hb) hck)
 have HEL:=Kh (show elF n wt D=elim (cntF n wt) (rowF (cntF n wt) (relF n wt D)) (2*cntF n wt)from rfl)
 obtain⟨U,hU⟩:∃ U,relF n wt D=U:=⟨_,rfl⟩
 have HUS:=Kh (show ∀ p,(U p).natAbs≤16777216 from fun p=>hU▸relF_small (by omega) p)
 rw[hU]at HRE HEL
 have HCP:=Kh (show 0<cntF n wt from cntF_pos (by omega))
 have HCS:=Kh (fun(hC:cntF n wt≤72) j f=>coord_size (n:=n) (wt:=wt) (D:=D) (by omega) hC (j:=j) (f:=f))
 obtain⟨C,hC⟩:∃ C,cntF n wt=C:=⟨_,rfl⟩
 have hC2:(wt+1)*(pts n (n*n)).length=C:=hC
 rw[hC2]at HLA
 rw[hC]at HNW HCS HCP HRE HEL HCT
 obtain⟨L,hL⟩:∃ L,elF n wt D=L:=⟨_,rfl⟩
 rw[hL]at HNW HCS HEL
 have HT:=Kh hT
 clear hT hck h1 h2 h3 h4 h5 h6 hC hC2 hL hU
 go_enter Tryz.func9,Tryz.ntmps9
 go_wp2_with fail
 obtain⟨w0,hw0,X0,hb0⟩:=bx1 w #[.int .i64 n,.int .i64 ((wt:Int)+2),.int .i64 D] 23
 rw[hw0]
 refine(c_awake w0 (HT.out.below hb0)).mono ?_
 rintro e w1 ⟨rfl,hb1⟩
 have X1:=X0.below_ hb1 X0.lt
 have HB1:=Kh (hb0.trans (hb1.mono hb0.size))
 have x0:=X1.at_ 0 rfl
 have x1:=X1.at_ 1 rfl
 have x2:=X1.at_ 2 rfl
 have HX1:=Kh X1
 clear hw0 X0 hb0 hb1 X1
 go_wp2_with fail
 refine(HLA.out w1).mono ?_
 rintro e w2 ⟨rfl,hb2⟩
 have X2:=bk HX1 hb2
 have HB2:=bt HB1 hb2
 clear x0 x1 x2 hb2
 have x0:=X2.at_ 0 rfl
 have x1:=X2.at_ 1 rfl
 have x2:=X2.at_ 2 rfl
 have HX2:=Kh X2
 clear X2 HX1
 by_cases hbig:72<C
 ·have hd:decide (72<C)=true:=decide_eq_true hbig
  rw[hd]
  go_wp2
  go_ret
  exact⟨rfl,HB2.out⟩
 have hd:decide (72<C)=false:=decide_eq_false hbig
 rw[hd]
 clear hd
 go_wp2_with fail
 refine(HNW.out w2 HB2.out (by omega)).mono ?_
 rintro e w3 ⟨⟨M,rfl,hM,hmod⟩,hb3⟩
 obtain⟨F,hF⟩:∃ F,frs L C=F:=⟨_,rfl⟩
 have HFE:=Kh hF
 have HFL:=Kh (show F.length≤72 from Nat.le_trans (hF▸frs_length L C) (by omega))
 have HME:=Kh (show ∀ x,x∈F→x<C from fun x h=>by rw[← hF]at h;exact(frs_mem.1 h).1)
 rw[hF]at hmod HCS
 obtain⟨X,hX⟩:∃ X,crd L C C=X:=⟨_,rfl⟩
 rw[hX]at hmod HCS
 have HCL:=Kh (show C≤72 by omega)
 have HCS:=Kh (HCS.out (by omega))
 have HXS:=Kh (show ∀ j f,j<C→f∈F→hq (X j f)≤10000 from fun j f hj hf=>Nat.le_trans (HCS.out j f hj hf) (by omega))
 have HB3:=bt HB2 hb3
 have X3:=bk HX2 hb3
 have HMO3:=Kh (fun W (hb:Below w3.heap.size w3 W)=>hmod.keep (Nat.le_refl _) hb)
 clear x0 x1 x2 hM hmod hb3 hF hX HNW HLA HT HX2 hbig
 have x0:=X3.at_ 0 rfl
 have x1:=X3.at_ 1 rfl
 have x2:=X3.at_ 2 rfl
 have HX3:=Kh X3
 clear X3
 go_wp2_with fail
 refine(HRE.out w3 HB3.out HCL.out).mono ?_
 rintro e w4 ⟨⟨gA,oA,cA,rfl,hgA,hze,hc1,hc2⟩,hb4⟩
 obtain⟨R2,hR2⟩:∃ R,2*C=R:=⟨_,rfl⟩
 obtain⟨RC,hRC⟩:∃ R,R2*C=R:=⟨_,rfl⟩
 rw[hR2]at hze hc1 HEL ⊢
 rw[hRC]at hze hc1 ⊢
 have hRCb:RC≤10368:=by
  rw[← hRC,← hR2]
  exact Nat.mul_le_mul (by have:=HCL.out;omega:2*C≤144) HCL.out
 have HB4:=bt HB3 hb4
 have HK4:=Kh hb4
 have HZE:=Kh hze
 have HGA:=Kh hgA
 have HRC:=Kh hRC
 have HR2:=Kh hR2
 clear x0 x1 x2 hb4 hze hgA hc1 hc2 HRE hRC hR2
 go_wp2_with fail
 obtain⟨w5,hw5⟩:∃ w5,w4.alloc (.cells #[.int .i64 (R2:Int),.int .i64 (C:Int),.slice (some ⟨gA,oA,none⟩) RC cA] 76)=w5:=⟨_,rfl⟩
 have hb5:Below w4.heap.size w4 w5:=hw5▸(Below.refl _ _).alloc (Nat.le_refl _) _
 rw[hw5]
 refine(c_Rational R2 C gA oA cA RC U w5 (fun j hj=>(HZE.out j hj).keep hb5) (Nat.lt_of_lt_of_le HGA.out hb5.size) (fun j _=>Nat.le_trans (nd_small (by have:=HUS.out j;omega)) (by omega)) (by omega)).mono ?_
 rintro e w6 ⟨⟨vq,rfl,hoq⟩,hb6⟩
 obtain⟨gq,cq,rfl,hgq,hrq⟩:=hoq.row.resolve_left (fun h=>by
  have h1:=HCP.out
  have h2:=HRC.out
  have h3:=HR2.out
  have h4:0<R2*C:=Nat.mul_pos (by omega) h1
  omega)
 have hcaps:=hoq.caps
 have hb56:=hb5.trans (hb6.mono hb5.size)
 have HB6:=bt HB4 hb56
 have HK6:=bt HK4 hb56
 have HRQ:=Kh hrq
 clear hw5 hb5 hb6 hb56 hoq hrq HZE HGA HB4 HK4
 have HGQ:=Kh hgq
 clear hgq
 go_wp2_with fail
 refine(c_mRank R2 C RC gq 0 cq U w6 HRQ.out.sts.1 (fun j hj=>by rw[Nat.zero_add];exact HRQ.out.val j hj) HRC.out (by have:=HR2.out;have:=HCL.out;omega) HCP.out HCL.out HUS.out).mono ?_
 rintro e w7 ⟨⟨t,rfl,ht⟩,hb7⟩
 rw[← HEL.out,HFE.out]at ht
 have HB7:=bt HB6 hb7
 have HK7:=bt HK6 hb7
 have X7:=HX3.out.below_ HK7.out HX3.out.lt
 have x0:=X7.at_ 0 rfl
 have x1:=X7.at_ 1 rfl
 have x2:=X7.at_ 2 rfl
 have HTT:=Kh ht
 clear hb7 X7 ht HRQ
 go_wp2_with fail
 refine(HCT.out w7 HB7.out).mono ?_
 rintro e w8 ⟨rfl,hb8⟩
 have HB8:=bt HB7 hb8
 have HK8:=bt HK7 hb8
 clear hb8 x0 x1 x2
 go_wp2_with fail
 refine(c_Dim M w3.heap.size n ((wt:Int)+2) D F C X w8 (HMO3.out _ HK8.out)).mono ?_
 rintro e w' ⟨rfl,hw'⟩
 obtain rfl:w8=w':=hw'.symm
 have hsub:(C:Int) - (t:Int)=(F.length:Nat):=by have:=HTT.out;omega
 have hFb:F.length≤72:=HFL.out
 go_wp2_with fail
 refine(c_Free M w3.heap.size n ((wt:Int)+2) D F C X w8 (HMO3.out _ HK8.out) (by omega)).mono ?_
 rintro e w9 ⟨⟨v9,rfl,hv9⟩,hb9⟩
 obtain⟨p9,c9,rfl⟩:=own_slice hv9.1
 have HB9:=bt HB8 hb9
 have HK9:=bt HK8 hb9
 clear hb9 hv9
 go_wp2_with fail
 refine(c_Dim M w3.heap.size n ((wt:Int)+2) D F C X w9 (HMO3.out _ HK9.out)).mono ?_
 rintro e w' ⟨rfl,hw'⟩
 obtain rfl:w9=w':=hw'.symm
 go_wp2
 go_ret
 exact⟨rfl,HB9.out⟩
theorem c_lawElse (N k D:Int) (w:World) (hT:Tab w):
  Calls Tryz.prog 9 #[.agg #[.int .i64 N,.int .i64 k,.int .i64 D]] w fun e w'=>e=.returned (.bool true)∧Below w.heap.size w w':=by
 by_cases hck:Pl.check N k D=0
 ·obtain⟨h1,h2,h3,h4,_,_⟩:=check_zero hck
  obtain⟨n,rfl⟩:∃ n:Nat,N=n:=⟨N.toNat,by omega⟩
  obtain⟨wt,rfl⟩:∃ wt:Nat,k=(wt:Int)+2:=⟨(k - 2).toNat,by omega⟩
  exact c_lawElse_ok n wt D w hT hck
 ·exact c_lawElse_bad N k D w hT hck
end Go.Proofs.YthikonjlgljikaaGreatDoor
