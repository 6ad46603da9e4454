/- Contract of halfplaneref40.Relations: the same relations as manin.Relations. -/
import Derived.Test.YthikonjlgljikaaGreatDoorV47
import Derived.Test.YthikonjlgljikaaGreatDoorV12
import Derived.Test.YthikonjlgljikaaGreatDoorV41
set_option linter.unusedSimpArgs false
set_option maxRecDepth 100000
set_option maxHeartbeats 8000000
namespace Go.Proofs.YthikonjlgljikaaGreatDoor
open Go.RowKit
theorem relE_first {n w:Nat} {L:List Nat} {f:Nat→Nat×Int} {C k j:Nat} (hC:(w+1)*L.length=C) (hk:k<C):relE n w L f k j=(if j=k then 1 else 0)+mvd n w L f (k / L.length) (k % L.length) gTurn j:=by
 rw[relE,if_pos (by rw[hC];exact hk)]
theorem relE_second {n w:Nat} {L:List Nat} {f:Nat→Nat×Int} {C k j:Nat} (hC:(w+1)*L.length=C):relE n w L f (C+k) j=(if j=k then 1 else 0)+mvd n w L f (k / L.length) (k % L.length) gThird j+mvd n w L f (k / L.length) (k % L.length) gTwice j:=by
 rw[relE,if_neg (by rw[hC];omega),hC,Nat.add_sub_cancel_left]
theorem at_rc {C k j:Nat} (hj:j<C):(k*C+j) / C=k∧(k*C+j) % C=j:=by
 exact⟨by rw[Nat.mul_comm,Nat.mul_add_div (by omega),Nat.div_eq_of_lt hj,Nat.add_zero],by rw[Nat.mul_comm,Nat.mul_add_mod,Nat.mod_eq_of_lt hj]⟩
theorem nd_million {x:Int} (h:x.natAbs≤1000000000):nd x.natAbs≤1000000:=Nat.le_trans (nd_small h) (by decide)
theorem unit_small (k j:Nat):((if j=k then 1 else 0:Int)).natAbs≤1:=by split <;> decide
theorem c_Relations40 (n wt:Nat) (D:Int) (L:List Nat) (C:Nat) (w:World) (hck:Pl.check n ((wt:Int)+2) D=0) (hL:pts n (n*n)=L) (hC:(wt+1)*L.length=C) (hC0:0<C) (hC72:C≤72):
  Calls Tryz.prog 58 #[.agg #[.int .i64 n,.int .i64 ((wt:Int)+2),.int .i64 D]] w fun e w'=>RelRet (2*C) C (fun p=>relE n wt L (plAll n D L n) (p / C) (p % C)) e w'∧Below w.heap.size w w':=by
 obtain⟨h1,h2,h3,h4,h5,h6⟩:=check_zero hck
 have HCO:=Kh (fun W=>c_Count40 n wt D W hck)
 rw[hL,hC]at HCO
 have HT1:=Kh (fun W=>c_S40 W)
 have HT2:=Kh (fun W=>c_R40 W)
 have HT3:=Kh (fun W=>c_R240 W)
 have HA1:=Kh (fun k (hk:k<C) W=>c_Apply40 n wt D L C k 0 (-1) 1 0 W hck hL hC hk (by omega) (by omega) (by omega) (by omega) (by omega) (by omega) (by omega) (by omega) (by omega))
 have HA2:=Kh (fun k (hk:k<C) W=>c_Apply40 n wt D L C k 0 (-1) 1 (-1) W hck hL hC hk (by omega) (by omega) (by omega) (by omega) (by omega) (by omega) (by omega) (by omega) (by omega))
 have HA3:=Kh (fun k (hk:k<C) W=>c_Apply40 n wt D L C k (-1) 1 (-1) 0 W hck hL hC hk (by omega) (by omega) (by omega) (by omega) (by omega) (by omega) (by omega) (by omega) (by omega))
 obtain⟨T,hT⟩:∃ T,plAll n D L n=T:=⟨_,rfl⟩
 have hTok:TabOk L.length T:=by rw[← hT];exact plAll_ok (kro3 D) n
 have hp:2 ^ wt≤4194304:=Nat.le_trans (Nat.pow_le_pow_right (by decide) (show wt≤22 by omega)) (by decide)
 have HSM:=Kh (show(∀ i j k,(mvd n wt L T i j gTurn k).natAbs≤4194304)∧(∀ i j k,(mvd n wt L T i j gThird k).natAbs≤4194304)∧(∀ i j k,(mvd n wt L T i j gTwice k).natAbs≤4194304)from
  ⟨fun i j k=>Nat.le_trans (mvd_small hTok (by decide) (by decide) k) hp,fun i j k=>Nat.le_trans (mvd_small hTok (by decide) (by decide) k) hp,fun i j k=>Nat.le_trans (mvd_small hTok (by decide) (by decide) k) hp⟩)
 rw[hT]at HA1 HA2 HA3 ⊢
 obtain⟨l,hl⟩:∃ l,L.length=l:=⟨_,rfl⟩
 rw[hl]at HA1 HA2 HA3
 have HLL:=Kh hl
 have HCE:=Kh hC
 obtain⟨F,hF⟩:∃ F,(fun p=>relE n wt L T (p / C) (p % C))=F:=⟨_,rfl⟩
 have HFE:=Kh (show ∀ p,F p=relE n wt L T (p / C) (p % C)from fun p=>by rw[← hF])
 have HFQ:=Kh hF
 obtain⟨C2,hC2⟩:∃ x,2*C=x:=⟨_,rfl⟩
 have e2:(2:Int)*(C:Int)=(C2:Nat):=by rw[← hC2];push_cast;rfl
 have v2:IntKind.i64.wrap (C2:Int)=(C2:Nat):=IntWalk.i64_in _ (by omega)
 have HC2:=Kh hC2
 clear hck h1 h2 h3 h4 h5 h6 hL hC hT hTok hp hl hF hC2
 go_enter Tryz.func58,Tryz.ntmps58
 go_wp2_with fail
 obtain⟨w0,hw0,X0,X1,hb0⟩:=bx2 w #[.int .i64 n,.int .i64 ((wt:Int)+2),.int .i64 D] 23 #[.int .i64 0,.int .i64 0,.slice none 0 0] 76
 rw[hw0]
 obtain⟨bs,hbs⟩:∃ y,w.heap.size=y:=⟨_,rfl⟩
 obtain⟨gr,hgr⟩:∃ y,w.heap.size+1=y:=⟨_,rfl⟩
 have HBR:=Kh (And.intro hbs hgr)
 rw[hgr]at X1 ⊢
 rw[hbs]at X0 ⊢
 refine(HCO.out w0).mono ?_
 rintro e w1 ⟨rfl,hb1⟩
 have X0:=X0.below_ hb1 X0.lt
 have X1:=X1.below_ hb1 X1.lt
 have HB1:=Kh (hb0.trans (hb1.mono hb0.size))
 go_wp2_with fail
 obtain⟨wx,hwx,Y,hbx⟩:=bx1 w1 #[.int .i64 C2,.int .i64 C,.slice none 0 0] 76
 rw[hwx]
 obtain⟨ob,hob⟩:∃ y,w1.heap.size=y:=⟨_,rfl⟩
 have HNE:=Kh (show bs≠ob∧gr≠ob∧bs<ob∧gr<ob from by have h1:=X0.lt;have h2:=X1.lt;omega)
 rw[hob]at Y ⊢
 have HX0:=Kh (X0.below_ hbx X0.lt)
 have HX1:=Kh (X1.below_ hbx X1.lt)
 have HBX:=bt HB1 hbx
 obtain⟨GB,hGB⟩:∃ y,wx.heap.size=y:=⟨_,rfl⟩
 have HGE:=Kh hGB
 have HM0:=Kh (show OutAt F wx ob GB C2 C (0*C)from
  ⟨by rw[← hGB];exact Y.lt,Nat.le_of_eq hGB.symm,Y.at_ 0 rfl,Y.at_ 1 rfl,⟨none,0,by rw[Nat.zero_mul];exact Y.at_ 2 rfl,by rw[Nat.zero_mul];exact OwnZ.nil _ _ _⟩,Y.free_ 2,Stk.of Y (by intro v hv;simp at hv;rcases hv with rfl|rfl|rfl <;> exact fun _ h=>by cases h)⟩)
 clear hw0 X0 X1 hb0 hb1 hbs hgr HCO hwx Y hbx hob hGB
 go_loopw [7] (fun ii wr=>∃ k:Nat,k≤C∧ii=.int .i64 k∧OutAt F wr ob GB C2 C (k*C)∧wx.grownBy wr (some ob)) (fun ii _=>C - (intOf ii).toNat)
 case atStart=>exact⟨0,Nat.zero_le _,rfl,HM0.out,but_below ob (Below.refl _ _)⟩
 case round=>
  obtain⟨k,hk,rfl,hmat,hgw⟩:=hrel
  obtain⟨we,rfl⟩:∃ we:World,we=wr:=⟨_,rfl⟩
  have HMT:=Kh hmat
  have HGW:=Kh hgw
  clear hmat hgw HM0
  by_cases hlt:k<C
  ·have hki:(k:Int)<(C:Int):=by omega
   have hkC:=hlt
   have HAP:=Kh (HA1.out k hlt)
   have x0:we.cell? ⟨bs,0,none⟩=some (.int .i64 n):=HGW.out.cell (HX0.out.at_ 0 rfl) (fun e=>by injection e with e;exact HNE.out.1 e)
   have x1:we.cell? ⟨bs,1,none⟩=some (.int .i64 ((wt:Int)+2)):=HGW.out.cell (HX0.out.at_ 1 rfl) (fun e=>by injection e with e;exact HNE.out.1 e)
   have x2:we.cell? ⟨bs,2,none⟩=some (.int .i64 D):=HGW.out.cell (HX0.out.at_ 2 rfl) (fun e=>by injection e with e;exact HNE.out.1 e)
   have HS1:=Kh (show ∀ W,Below we.heap.size we W→(W.cell? ⟨bs,0,none⟩=some (.int .i64 n)∧W.cell? ⟨bs,1,none⟩=some (.int .i64 ((wt:Int)+2))∧W.cell? ⟨bs,2,none⟩=some (.int .i64 D))from fun W hb=>⟨cell_next hb x0,cell_next hb x1,cell_next hb x2⟩)
   have hS0:=HS1.out _ (Below.refl _ we).drew
   have HK1:=Kh (show ∀ wb,Below we.drew.heap.size we.drew wb→Below we.heap.size we wb from fun wb hb=>(Below.refl _ we).drew.trans hb)
   have HK2:=Kh (show ∀ wa wb,Below we.heap.size we wa→Below wa.heap.size wa wb→Below we.heap.size we wb from fun wa wb h1 h2=>h1.trans (h2.mono h1.size))
   clear x0 x1 x2
   go_upto_region 8 with(fail)
   go_region_held3 (fun W=>W.cell? ⟨bs,0,none⟩=some (.int .i64 n)∧W.cell? ⟨bs,1,none⟩=some (.int .i64 ((wt:Int)+2))∧W.cell? ⟨bs,2,none⟩=some (.int .i64 D))
    (first|with_reducible exact hS0|with_reducible exact HS1.out _ HBA.out)
    (first
     |(go_at_call 105;(with_reducible refine(HT1.out _).mono ?_);rintro e wq6 ⟨rfl,hbq⟩;have HBA:=Kh (show Below we.heap.size we wq6 from by first|exact HK1.out _ hbq|exact HK2.out _ _ (Below.refl _ _) hbq))
     |(go_at_call 104;(with_reducible refine(HAP.out _).mono ?_);rintro e w6 ⟨⟨g6,cap6,rfl,hgy,hry⟩,hby⟩;have HBA:=Kh (show Below we.heap.size we w6 from by first|exact HK2.out _ _ HBA.out hby|exact HK1.out _ hby);have HR6:=Kh hry;have HB6:=Kh HBA.out;clear hgy hry hby))
   have HMT6:=Kh (HMT.out.keep HB6.out)
   have HGW6:=Kh (HGW.out.trans (but_below ob HB6.out))
   obtain⟨m,hm⟩:∃ y,k*C=y:=⟨_,rfl⟩
   have HMC:=Kh (show m+C=(k+1)*C by rw[← hm];exact(Nat.succ_mul _ _).symm)
   have hml:m≤2*72*72:=by rw[← hm];exact Nat.mul_le_mul (by omega) hC72
   have HE2:=Kh (show ∀ j,j<C→F (m+j)=(if j=k then 1 else 0)+mvd n wt L T (k / l) (k % l) gTurn j from fun j hj=>by
    obtain⟨e1,e2⟩:=at_rc (k:=k) hj
    rw[← hm,HFE.out,e1,e2]
    rw[← HLL.out]
    exact relE_first HCE.out hlt)
   rw[hm]at HMT6
   obtain⟨p,c,g2,xs,hK,hXX⟩:=HMT6.out.c2
   have HKK:=Kh (show ∀ W,Below w6.heap.size w6 W→OwnK NotInt W GB 33 2 (.slice p m c) m xs from fun W hb=>hK.keep hb)
   have HXK:=Kh (show ∀ W,Below w6.heap.size w6 W→∀ j,j<m→ZX (F j) W xs (j*2)from fun W hb j hj=>by
    obtain⟨s,p',n',c',e0,e1,hz⟩:=hXX j hj
    exact⟨s,p',n',c',e0,e1,hz.keep hb⟩)
   have HCL:=Kh (show ∀ W,Below w6.heap.size w6 W→W.cell? ⟨ob,2,none⟩=some (.slice p m c)from fun W hb=>cell_next hb g2)
   have hobl:ob<w6.heap.size:=Nat.lt_of_lt_of_le HMT6.out.lt HMT6.out.hB
   have HUN:=Kh (fun W=>c_Unit40 C k W hkC (by omega))
   have HPL:=Kh (fun W gu capu (hb:Below w6.heap.size w6 W) (hu:ZRow (fun j=>if j=k then 1 else 0) W gu C C)=>c_plus40 (.slice (some ⟨gu,0,none⟩) C capu) (.slice (some ⟨g6,0,none⟩) C cap6) C (fun j=>if j=k then 1 else 0) (mvd n wt L T (k / l) (k % l) gTurn) W (hu.zl _) ((HR6.out.keep hb).zl _) hC0 (by omega) (fun j=>nd_million (by have:=unit_small k j;omega)) (fun j=>nd_million (by have:=HSM.out.1 (k / l) (k % l) j;omega)))
   clear hK hXX hm HBA
   go_upto_region 9 with(fail)
   refine rgB (fun W=>W.cell? ⟨ob,2,none⟩=some (.slice p m c)∧W.frozen? ⟨ob,2,none⟩=false) (fun W hb=>⟨cnx hb g2,frozen_keep hb (by rw[g2];rfl) (HMT6.out.fr)⟩) (fun HSE hHeld0=>?_)
   refine tkE 0 ?_;refine tkE 1 ?_;refine tkE 2 ?_;refine tkE 3 ?_;refine tkE 5 ?_
   refine stE 4 rfl (fun K hK=>?_)
   focus(go_simp;(with_reducible refine(HUN.out _).mono ?_);rintro e w7 ⟨⟨g7,cap7,rfl,hg7,hr7⟩,hb7⟩;have HB7:=Kh ((Below.refl _ w6).drew.trans hb7:Below w6.heap.size w6 w7);have HU7:=Kh hr7;clear hg7 hr7 hb7;(first|with_reducible refine hK.out _ _ ?_ (fun hHeld1=>?_) |(go_wp2_with fail;with_reducible refine hK.out _ _ ?_ (fun hHeld1=>?_))))
   focus((try dsimp only);exact HSE.out _ HB7.out)
   focus(clear hK K;(try simp only[Act.put,lsa,lsz,lss]))
   refine stE 6 rfl (fun K hK=>?_)
   focus(go_simp;(with_reducible refine(HPL.out _ _ _ HB7.out HU7.out).mono ?_);rintro e w8 ⟨⟨v8,rfl,ho8⟩,hb8⟩;obtain⟨g8,cap8,rfl,_,hr8⟩:=ho8.row.resolve_left (fun h=>by omega);have HB8:=bt HB7 hb8;have HR8:=Kh hr8;clear ho8 hr8 hb8;(first|with_reducible refine hK.out _ _ ?_ (fun hHeld2=>?_) |(go_wp2_with fail;with_reducible refine hK.out _ _ ?_ (fun hHeld2=>?_))))
   focus((try dsimp only);exact HSE.out _ HB8.out)
   focus(clear hK K;(try simp only[Act.put,lsa,lsz,lss]))
   refine stE 7 rfl (fun K hK=>?_)
   focus(refine step_appN (W:=w8) NotInt rfl (.tmp 41) (.tmp 46) _ 33 rfl Tryz.underlying74 aIntInfo rfl (by decide) GB m C g8 _ (.slice p m c) xs (rowCells w8 g8 (C*2)) (by rfl) (HKK.out _ HB8.out) (by rfl) (rowCells_length _ _ _) (rowCells_cell HR8.out) (rowCells_one HR8.out) (by omega) (by omega) (Nat.le_trans HMT6.out.hB HB8.out.size) (rowCells_ni HR8.out) niz2 ?_;intro v9 w9 hown9 hgr9;obtain⟨p9,c9,rfl⟩:=own_slice hown9.1;obtain⟨d2,df,hO9⟩:=OutAt.more (HMT6.out.keep HB8.out) (HCL.out _ HB8.out) (HKK.out _ HB8.out) (HXK.out _ HB8.out) HR8.out hown9 hgr9 HE2.out;have HO9:=Kh hO9;have HSP:=Kh (And.intro d2 df);have HG9:=Kh ((grown_own (HGW6.out.trans (but_below ob HB8.out)) hgr9 HGE.out.symm (fun b hb=>own_ge (HKK.out _ HB8.out).1 hb.symm)).trans (but_put w9 ob 2 (.slice p9 (m+C) c9)));clear hown9 hgr9 hO9;(first|with_reducible refine hK.out _ _ ?_ (fun hHeld3=>?_) |(go_wp2_with fail;with_reducible refine hK.out _ _ ?_ (fun hHeld3=>?_))))
   focus((try dsimp only);exact HSP.out)
   focus(clear hK K;(try simp only[Act.put,lsa,lsz,lss]))
   refine tkE 8 ?_
   refine laE 9 rfl (fun K hK=>?_)
   go_simp
   refine hK.out _ _ ?_
   clear hK K
   (try simp only[Act.put,lsa,lsz,lss])
   all_goals go_wp2
   all_goals go_roundw
   all_goals first
    | exact⟨k+1,by omega,by go_num,by rw[← HMC.out];exact HO9.out,HG9.out⟩
    |(simp[intOf];omega)
  ·obtain rfl:C=k:=by omega
   have HM1:=Kh (show OutAt F we ob GB C2 C ((C+0)*C)from HMT.out)
   have HGW1:=Kh HGW.out
   clear HMT HGW
   go_wp2_with fail
   go_loopw [10] (fun ii wr=>∃ k:Nat,k≤C∧ii=.int .i64 k∧OutAt F wr ob GB C2 C ((C+k)*C)∧wx.grownBy wr (some ob)) (fun ii _=>C - (intOf ii).toNat)
   case atStart=>exact⟨0,Nat.zero_le _,rfl,HM1.out,HGW1.out⟩
   case round=>
    obtain⟨k,hk,rfl,hmat,hgw⟩:=hrel
    obtain⟨we,rfl⟩:∃ we:World,we=wr:=⟨_,rfl⟩
    have HMT:=Kh hmat
    have HGW:=Kh hgw
    clear hmat hgw HM1 HGW1
    by_cases hlt:k<C
    ·have hki:(k:Int)<(C:Int):=by omega
     have hkC:=hlt
     have HAP:=Kh (HA2.out k hlt)
     have HAQ:=Kh (HA3.out k hlt)
     have x0:we.cell? ⟨bs,0,none⟩=some (.int .i64 n):=HGW.out.cell (HX0.out.at_ 0 rfl) (fun e=>by injection e with e;exact HNE.out.1 e)
     have x1:we.cell? ⟨bs,1,none⟩=some (.int .i64 ((wt:Int)+2)):=HGW.out.cell (HX0.out.at_ 1 rfl) (fun e=>by injection e with e;exact HNE.out.1 e)
     have x2:we.cell? ⟨bs,2,none⟩=some (.int .i64 D):=HGW.out.cell (HX0.out.at_ 2 rfl) (fun e=>by injection e with e;exact HNE.out.1 e)
     have HS1:=Kh (show ∀ W,Below we.heap.size we W→(W.cell? ⟨bs,0,none⟩=some (.int .i64 n)∧W.cell? ⟨bs,1,none⟩=some (.int .i64 ((wt:Int)+2))∧W.cell? ⟨bs,2,none⟩=some (.int .i64 D))from fun W hb=>⟨cell_next hb x0,cell_next hb x1,cell_next hb x2⟩)
     have hS0:=HS1.out _ (Below.refl _ we).drew
     have HK1:=Kh (show ∀ wb,Below we.drew.heap.size we.drew wb→Below we.heap.size we wb from fun wb hb=>(Below.refl _ we).drew.trans hb)
     have HK2:=Kh (show ∀ wa wb,Below we.heap.size we wa→Below wa.heap.size wa wb→Below we.heap.size we wb from fun wa wb h1 h2=>h1.trans (h2.mono h1.size))
     clear x0 x1 x2
     go_upto_region 13 with(fail)
     go_region_held3 (fun W=>W.cell? ⟨bs,0,none⟩=some (.int .i64 n)∧W.cell? ⟨bs,1,none⟩=some (.int .i64 ((wt:Int)+2))∧W.cell? ⟨bs,2,none⟩=some (.int .i64 D))
      (first|with_reducible exact hS0|with_reducible exact HS1.out _ HBA.out)
      (first
       |(go_at_call 108;(with_reducible refine(HT2.out _).mono ?_);rintro e wq5 ⟨rfl,hbq⟩;have HBA:=Kh (show Below we.heap.size we wq5 from by first|exact HK1.out _ hbq|exact HK2.out _ _ (Below.refl _ _) hbq))
       |(go_at_call 104;(with_reducible refine(HAP.out _).mono ?_);rintro e w5 ⟨⟨g5,cap5,rfl,hgy,hry⟩,hby⟩;have HBA:=Kh (show Below we.heap.size we w5 from by first|exact HK2.out _ _ HBA.out hby|exact HK1.out _ hby);have HR5:=Kh hry;have HB5:=Kh HBA.out;clear hgy hry hby))
     have x0:=(HS1.out _ HB5.out).1
     have x1:=(HS1.out _ HB5.out).2.1
     have x2:=(HS1.out _ HB5.out).2.2
     have HMT5:=Kh (HMT.out.keep HB5.out)
     have HGW5:=Kh (HGW.out.trans (but_below ob HB5.out))
     clear HS1 hS0 HK1 HK2 HBA
     have HS1:=Kh (show ∀ W,Below w5.heap.size w5 W→(W.cell? ⟨bs,0,none⟩=some (.int .i64 n)∧W.cell? ⟨bs,1,none⟩=some (.int .i64 ((wt:Int)+2))∧W.cell? ⟨bs,2,none⟩=some (.int .i64 D))from fun W hb=>⟨cell_next hb x0,cell_next hb x1,cell_next hb x2⟩)
     have hS0:=HS1.out _ (Below.refl _ w5).drew
     have HK1:=Kh (show ∀ wb,Below w5.drew.heap.size w5.drew wb→Below w5.heap.size w5 wb from fun wb hb=>(Below.refl _ w5).drew.trans hb)
     have HK2:=Kh (show ∀ wa wb,Below w5.heap.size w5 wa→Below wa.heap.size wa wb→Below w5.heap.size w5 wb from fun wa wb h1 h2=>h1.trans (h2.mono h1.size))
     clear x0 x1 x2
     go_upto_region 14 with(fail)
     go_region_held3 (fun W=>W.cell? ⟨bs,0,none⟩=some (.int .i64 n)∧W.cell? ⟨bs,1,none⟩=some (.int .i64 ((wt:Int)+2))∧W.cell? ⟨bs,2,none⟩=some (.int .i64 D))
      (first|with_reducible exact hS0|with_reducible exact HS1.out _ HBA.out)
      (first
       |(go_at_call 109;(with_reducible refine(HT3.out _).mono ?_);rintro e wq6 ⟨rfl,hbq⟩;have HBA:=Kh (show Below w5.heap.size w5 wq6 from by first|exact HK1.out _ hbq|exact HK2.out _ _ (Below.refl _ _) hbq))
       |(go_at_call 104;(with_reducible refine(HAQ.out _).mono ?_);rintro e w6 ⟨⟨g6,cap6,rfl,hgy,hry⟩,hby⟩;have HBA:=Kh (show Below w5.heap.size w5 w6 from by first|exact HK2.out _ _ HBA.out hby|exact HK1.out _ hby);have HR6:=Kh hry;have HB6:=Kh HBA.out;clear hgy hry hby))
     have HMT6:=Kh (HMT5.out.keep HB6.out)
     have HGW6:=Kh (HGW5.out.trans (but_below ob HB6.out))
     have HR56:=Kh (HR5.out.keep HB6.out)
     obtain⟨m,hm⟩:∃ y,(C+k)*C=y:=⟨_,rfl⟩
     have HMC:=Kh (show m+C=((C+k)+1)*C by rw[← hm];exact(Nat.succ_mul _ _).symm)
     have hml:m≤2*72*72:=by rw[← hm];exact Nat.mul_le_mul (by omega) hC72
     have HE2:=Kh (show ∀ j,j<C→F (m+j)=(if j=k then 1 else 0)+mvd n wt L T (k / l) (k % l) gThird j+mvd n wt L T (k / l) (k % l) gTwice j from fun j hj=>by
      obtain⟨e1,e2⟩:=at_rc (k:=(C+k)) hj
      rw[← hm,HFE.out,e1,e2]
      rw[← HLL.out]
      exact relE_second HCE.out)
     rw[hm]at HMT6
     obtain⟨p,c,g2,xs,hK,hXX⟩:=HMT6.out.c2
     have HKK:=Kh (show ∀ W,Below w6.heap.size w6 W→OwnK NotInt W GB 33 2 (.slice p m c) m xs from fun W hb=>hK.keep hb)
     have HXK:=Kh (show ∀ W,Below w6.heap.size w6 W→∀ j,j<m→ZX (F j) W xs (j*2)from fun W hb j hj=>by
      obtain⟨s,p',n',c',e0,e1,hz⟩:=hXX j hj
      exact⟨s,p',n',c',e0,e1,hz.keep hb⟩)
     have HCL:=Kh (show ∀ W,Below w6.heap.size w6 W→W.cell? ⟨ob,2,none⟩=some (.slice p m c)from fun W hb=>cell_next hb g2)
     have hobl:ob<w6.heap.size:=Nat.lt_of_lt_of_le HMT6.out.lt HMT6.out.hB
     have HUN:=Kh (fun W=>c_Unit40 C k W hkC (by omega))
     have HPL:=Kh (fun W gu capu (hb:Below w6.heap.size w6 W) (hu:ZRow (fun j=>if j=k then 1 else 0) W gu C C)=>c_plus40 (.slice (some ⟨gu,0,none⟩) C capu) (.slice (some ⟨g5,0,none⟩) C cap5) C (fun j=>if j=k then 1 else 0) (mvd n wt L T (k / l) (k % l) gThird) W (hu.zl _) ((HR56.out.keep hb).zl _) hC0 (by omega) (fun j=>nd_million (by have:=unit_small k j;omega)) (fun j=>nd_million (by have:=HSM.out.2.1 (k / l) (k % l) j;omega)))
     have HPL2:=Kh (fun W gu capu (hb:Below w6.heap.size w6 W) (hu:ZRow (fun j=>(if j=k then 1 else 0)+mvd n wt L T (k / l) (k % l) gThird j) W gu C C)=>c_plus40 (.slice (some ⟨gu,0,none⟩) C capu) (.slice (some ⟨g6,0,none⟩) C cap6) C (fun j=>(if j=k then 1 else 0)+mvd n wt L T (k / l) (k % l) gThird j) (mvd n wt L T (k / l) (k % l) gTwice) W (hu.zl _) ((HR6.out.keep hb).zl _) hC0 (by omega) (fun j=>nd_million (by have h1:=unit_small k j;have h2:=HSM.out.2.1 (k / l) (k % l) j;omega)) (fun j=>nd_million (by have:=HSM.out.2.2 (k / l) (k % l) j;omega)))
     clear hK hXX hm HBA
     go_upto_region 15 with(fail)
     refine rgB (fun W=>W.cell? ⟨ob,2,none⟩=some (.slice p m c)∧W.frozen? ⟨ob,2,none⟩=false) (fun W hb=>⟨cnx hb g2,frozen_keep hb (by rw[g2];rfl) (HMT6.out.fr)⟩) (fun HSE hHeld0=>?_)
     refine tkE 0 ?_;refine tkE 1 ?_;refine tkE 2 ?_;refine tkE 3 ?_;refine tkE 5 ?_;refine tkE 7 ?_
     refine stE 4 rfl (fun K hK=>?_)
     focus(go_simp;(with_reducible refine(HUN.out _).mono ?_);rintro e w7 ⟨⟨g7,cap7,rfl,hg7,hr7⟩,hb7⟩;have HB7:=Kh ((Below.refl _ w6).drew.trans hb7:Below w6.heap.size w6 w7);have HU7:=Kh hr7;clear hg7 hr7 hb7;(first|with_reducible refine hK.out _ _ ?_ (fun hHeld1=>?_) |(go_wp2_with fail;with_reducible refine hK.out _ _ ?_ (fun hHeld1=>?_))))
     focus((try dsimp only);exact HSE.out _ HB7.out)
     focus(clear hK K;(try simp only[Act.put,lsa,lsz,lss]))
     refine stE 6 rfl (fun K hK=>?_)
     focus(go_simp;(with_reducible refine(HPL.out _ _ _ HB7.out HU7.out).mono ?_);rintro e w8 ⟨⟨v8,rfl,ho8⟩,hb8⟩;obtain⟨g8,cap8,rfl,_,hr8⟩:=ho8.row.resolve_left (fun h=>by omega);have HB8:=bt HB7 hb8;have HR8:=Kh hr8;clear ho8 hr8 hb8;(first|with_reducible refine hK.out _ _ ?_ (fun hHeld2=>?_) |(go_wp2_with fail;with_reducible refine hK.out _ _ ?_ (fun hHeld2=>?_))))
     focus((try dsimp only);exact HSE.out _ HB8.out)
     focus(clear hK K;(try simp only[Act.put,lsa,lsz,lss]))
     refine stE 8 rfl (fun K hK=>?_)
     focus(go_simp;(with_reducible refine(HPL2.out _ _ _ HB8.out HR8.out).mono ?_);rintro e w10 ⟨⟨v10,rfl,ho10⟩,hb10⟩;obtain⟨g10,cap10,rfl,_,hr10⟩:=ho10.row.resolve_left (fun h=>by omega);have HB10:=bt HB8 hb10;have HR10:=Kh hr10;clear ho10 hr10 hb10;(first|with_reducible refine hK.out _ _ ?_ (fun hHeld3=>?_) |(go_wp2_with fail;with_reducible refine hK.out _ _ ?_ (fun hHeld3=>?_))))
     focus((try dsimp only);exact HSE.out _ HB10.out)
     focus(clear hK K;(try simp only[Act.put,lsa,lsz,lss]))
     refine stE 9 rfl (fun K hK=>?_)
     focus(refine step_appN (W:=w10) NotInt rfl (.tmp 69) (.tmp 76) _ 33 rfl Tryz.underlying74 aIntInfo rfl (by decide) GB m C g10 _ (.slice p m c) xs (rowCells w10 g10 (C*2)) (by rfl) (HKK.out _ HB10.out) (by rfl) (rowCells_length _ _ _) (rowCells_cell HR10.out) (rowCells_one HR10.out) (by omega) (by omega) (Nat.le_trans HMT6.out.hB HB10.out.size) (rowCells_ni HR10.out) niz2 ?_;intro v9 w9 hown9 hgr9;obtain⟨p9,c9,rfl⟩:=own_slice hown9.1;obtain⟨d2,df,hO9⟩:=OutAt.more (HMT6.out.keep HB10.out) (HCL.out _ HB10.out) (HKK.out _ HB10.out) (HXK.out _ HB10.out) HR10.out hown9 hgr9 HE2.out;have HO9:=Kh hO9;have HSP:=Kh (And.intro d2 df);have HG9:=Kh ((grown_own (HGW6.out.trans (but_below ob HB10.out)) hgr9 HGE.out.symm (fun b hb=>own_ge (HKK.out _ HB10.out).1 hb.symm)).trans (but_put w9 ob 2 (.slice p9 (m+C) c9)));clear hown9 hgr9 hO9;(first|with_reducible refine hK.out _ _ ?_ (fun hHeld4=>?_) |(go_wp2_with fail;with_reducible refine hK.out _ _ ?_ (fun hHeld4=>?_))))
     focus((try dsimp only);exact HSP.out)
     focus(clear hK K;(try simp only[Act.put,lsa,lsz,lss]))
     refine tkE 10 ?_
     refine laE 11 rfl (fun K hK=>?_)
     go_simp
     refine hK.out _ _ ?_
     clear hK K
     (try simp only[Act.put,lsa,lsz,lss])
     all_goals go_wp2
     all_goals go_roundw
     all_goals first
      | exact⟨k+1,by omega,by go_num,by rw[show(C+(k+1))*C=(C+k+1)*C by rw[Nat.add_assoc],← HMC.out];exact HO9.out,HG9.out⟩
      |(simp[intOf];omega)
    ·obtain rfl:C=k:=by omega
     obtain⟨p,c,g2,hOZ⟩:=HMT.out.c2
     obtain⟨gA,cA,hv,hc1,hc2,hgA,_,hze⟩:=hOZ.ret (Nat.mul_pos (by omega) hC0)
     have hCC:(C+C)*C=2*C*C:=by rw[Nat.two_mul]
     rw[hCC]at hv hc1 hze g2
     have hgg:=HNE.out.2.1
     have hgr0:gr<GB:=by have:=HNE.out;have:=HMT.out.lt;omega
     have hblk:=HGW.out.block gr (by rw[HGE.out];exact hgr0) (fun e=>by injection e with e;exact hgg e)
     have r0:=HGW.out.cell (HX1.out.at_ 0 rfl) (fun e=>by injection e with e;exact hgg e)
     have r1:=HGW.out.cell (HX1.out.at_ 1 rfl) (fun e=>by injection e with e;exact hgg e)
     have r2:=HGW.out.cell (HX1.out.at_ 2 rfl) (fun e=>by injection e with e;exact hgg e)
     have f0:we.frozen? ⟨gr,0,none⟩=false:=(World.frozen?_of_block (a:=⟨gr,0,none⟩) hblk).trans (HX1.out.free_ 0)
     have f1:we.frozen? ⟨gr,1,none⟩=false:=(World.frozen?_of_block (a:=⟨gr,1,none⟩) hblk).trans (HX1.out.free_ 1)
     have f2:we.frozen? ⟨gr,2,none⟩=false:=(World.frozen?_of_block (a:=⟨gr,2,none⟩) hblk).trans (HX1.out.free_ 2)
     have hstB:Stk NotU32 wx gr:=Stk.of HX1.out (by intro v hv;simp at hv;rcases hv with rfl|rfl|rfl <;> exact fun _ h=>by cases h)
     have hst:Stk NotU32 we gr:=⟨Nat.lt_of_lt_of_le hstB.1 HGW.out.size,fun i u hu=>hstB.2 i u ((World.cell?_of_block (a:=⟨gr,i,none⟩) hblk).symm.trans hu)⟩
     have a0:=HMT.out.c0
     have a1:=HMT.out.c1
     rw[hv]at g2
     have HE3:=Kh (put3_at (w:=we) (R:=gr) (v0:=.int .i64 (C2:Int)) (v1:=.int .i64 (C:Int)) (v2:=.slice (some ⟨gA,0,none⟩) (2*C*C) cA) (by rw[r0];rfl) (by rw[r1];rfl) (by rw[r2];rfl))
     have HI3:=Kh (put3_32 hst (v0:=.int .i64 (C2:Int)) (v1:=.int .i64 (C:Int)) (v2:=.slice (some ⟨gA,0,none⟩) (2*C*C) cA) (fun _ h=>by cases h) (fun _ h=>by cases h))
     have HG3:=Kh (((but_put we gr 0 (.int .i64 (C2:Int))).trans (but_put _ gr 1 (.int .i64 (C:Int)))).trans (but_put _ gr 2 (.slice (some ⟨gA,0,none⟩) (2*C*C) cA)))
     have HRR:=Kh (show gA<we.heap.size∧gA≠gr∧(∀ j,j<2*C*C→ZE (F j) we gA (j*2))∧2*C*C≤cA∧cA≤9223372036854775807 from⟨by assumption,by omega,hze,hc1,hc2⟩)
     have HBE:=Kh (show Below w.heap.size w we from below_but HBX.out HGW.out HBX.out.size (by have h1:=HBR.out;have h2:=HNE.out;omega))
     clear hOZ hv hc1 hc2 hgA hze hblk hstB hst
     go_wp2
     have e0:=HE3.out.1
     have e1:=HE3.out.2.1
     have e2:=HE3.out.2.2
     try simp only[Exit.inBlock,Exit.then]
     refine bodyPost_ret (by simp[results,Tryz.results58,go_sem,e0,e1,e2];try rfl) rfl ?_
     refine⟨⟨gA,0,cA,by rw[HC2.out],by simpa using HRR.out.1,fun j hj=>?_,HRR.out.2.2.2⟩,?_⟩
     ·rw[HFQ.out,Nat.zero_add];exact(HRR.out.2.2.1 j hj).but32 HI3.out HG3.out HRR.out.2.1
     ·exact below_but HBE.out HG3.out HBE.out.size (by have:=HBR.out;omega)
end Go.Proofs.YthikonjlgljikaaGreatDoor
