/- Contract of paths.collect: the class of a polynomial along a chain of Farey neighbours. -/
import Derived.Test.YtijgdhijdfgpfaaGreatDoorZ13
import Derived.Test.YtijgdhijdfgpfaaGreatDoorZ35
import Derived.Test.YtijgdhijdfgpfaaGreatDoorZ36
import Derived.Test.YtijgdhijdfgpfaaGreatDoorZ20
set_option linter.unusedSimpArgs false
set_option maxRecDepth 100000
set_option maxHeartbeats 8000000
namespace Go.Proofs.YtijgdhijdfgpfaaGreatDoor
open Go.RowKit Eli
def stT (Q:Nat→Rat) (n wt:Nat) (D:Int) (X:Nat→Nat→Rat) (a b:Int×Int) (f i:Nat):Rat:=
 subst Q wt (stpM a b).1.1 (stpM a b).1.2 (stpM a b).2.1 (stpM a b).2.2 (wt+1) i*((plcOf n D (stpM a b).2.1 (stpM a b).2.2).2:Rat)*X (i*(pts n (n*n)).length+(plcOf n D (stpM a b).2.1 (stpM a b).2.2).1) f
def stS (Q:Nat→Rat) (n wt:Nat) (D:Int) (X:Nat→Nat→Rat) (a b:Int×Int) (f i:Nat):Rat:=sumQ (stT Q n wt D X a b f) i
def stC (Q:Nat→Rat) (n wt:Nat) (D:Int) (X:Nat→Nat→Rat) (ch:List (Int×Int)) (f k:Nat):Rat:=sumQ (fun j=>stS Q n wt D X (ch.getD j (0,0)) (ch.getD (j+1) (0,0)) f (wt+1)) k
theorem c_collect (M B n wt:Nat) (D:Int) (F:List Nat) (C:Nat) (X:Nat→Nat→Rat) (ch:List (Int×Int)) (gc oc cc:Nat) (v:Value) (x y:Nat→Int) (w:World) (hT:Tab w) (hck:Pl.check n ((wt:Int)+2) D=0) (hCn:cntF n wt=C) (hF:F.length≤72)
  (hmod:ModAt w M B n ((wt:Int)+2) D F C X) (hB:B≤w.heap.size) (hX:∀ j f,j<C→f∈F→hq (X j f)≤10000) (hp:QL (fun j=>IsB 4000 (x j) (y j)) w v (wt+1)) (hgc:gc<w.heap.size) (hlen:ch.length≤130)
  (hch:∀ k c,ch[k]?=some c→w.cell? ⟨gc,oc+k*2,none⟩=some (.int .i64 c.1)∧w.cell? ⟨gc,oc+k*2+1,none⟩=some (.int .i64 c.2)∧(-1073741824≤c.1∧c.1≤1073741824∧-1073741824≤c.2∧c.2≤1073741824))
  (hst:∀ k a b,ch[k]?=some a→ch[k+1]?=some b→(b.1*a.2 - a.1*b.2=1∨b.1*a.2 - a.1*b.2=-1)∧(plcOf n D (stpM a b).2.1 (stpM a b).2.2).2≠0):
  Calls Tryz.prog 47 #[.pointer (some ⟨M,0,none⟩),v,.slice (some ⟨gc,oc,none⟩) ch.length cc] w fun e w'=>(∃ g,e=.returned (.tuple #[.slice (some ⟨g,0,none⟩) F.length F.length,.int .i64 0])∧w.heap.size≤g∧QRow (fun j=>IsQ (stC (fun i=>Rat.divInt (x i) (y i)) n wt D X ch (F.getD j 0) (ch.length - 1))) w' g F.length F.length)∧Below w.heap.size w w':=by
 obtain⟨h1,h2,h3,h4,h5,h6⟩:=check_zero hck
 have hwt:wt≤22:=by omega
 obtain⟨Q,hQ⟩:∃ Q:Nat→Rat,(fun i=>Rat.divInt (x i) (y i))=Q:=⟨_,rfl⟩
 have HQ:=Kh hQ
 have HQS:=Kh (show ∀ i,i<wt+1→hq (Q i)≤4000 from fun i hi=>by
  obtain⟨_,_,_,_,hr⟩:=hp.resolve_left (fun h=>by omega)
  obtain⟨_,_,_,_,_,_,_,_,_,_,_,_,h5,h6,h7,h8⟩:=hr.2 i hi
  rw[← hQ]
  exact hq_fracK (by decide) (Nat.le_trans h5.size h7) (Nat.le_trans h6.size h8))
 rw[hQ]
 have HSP:=Kh (fun W (hb:Below w.heap.size w W)=>c_Spec M B n ((wt:Int)+2) D F C X W (hmod.keep hB hb) (Nat.le_trans hB hb.size))
 have HDI:=Kh (fun W (hb:Below w.heap.size w W)=>c_Dim M B n ((wt:Int)+2) D F C X W (hmod.keep hB hb))
 have HSU:=Kh (fun W a b c d (hb:Below w.heap.size w W) (ha:-1073741824≤a) (ha':a≤1073741824) (hb1:-1073741824≤b) (hb':b≤1073741824) (hc:-1073741824≤c) (hc':c≤1073741824) (hd:-1073741824≤d) (hd':d≤1073741824)=>c_substK 4000 (by decide) (by decide) v (wt+1) x y a b c d W (hp.keep (fun _=>IsB.solid _ _ _) hb) (by omega) (by omega) ha ha' hb1 hb' hc hc' hd hd')
 have HNU:=Kh (fun W i u z (hb:Below w.heap.size w W) (hi:i≤wt) (hs:(plcOf n D u z).2≠0)=>c_Number n wt D i u z W (hT.below hb) hck hi hs)
 have HRE:=Kh (fun W i (hb:Below w.heap.size w W) (hi:i<C)=>c_Reduce M B n ((wt:Int)+2) D F C X i W (hmod.keep hB hb) hi (by omega) (fun f hf=>Nat.le_trans (hX i f hi hf) (by omega)))
 have HPL:=Kh (show ∀ u z,(plcOf n D u z).2≠0→(plcOf n D u z).1<(pts n (n*n)).length∧-1≤(plcOf n D u z).2∧(plcOf n D u z).2≤1 from fun u z hs=>by
  rcases plAll_ok (kro3 D) n ((u % n).toNat*n+(z % n).toNat)with h|h
  ·exact absurd (by unfold plcOf;rw[h]) hs
  ·exact⟨h.1,by unfold plcOf;omega,by unfold plcOf;omega⟩)
 have HXS:=Kh (show ∀ j i,j<C→i<F.length→hq (X j (F.getD i 0))≤10000 from fun j i hj hi=>hX j _ hj (by rw[List.getD_eq_getElem?_getD,List.getElem?_eq_getElem hi];exact List.getElem_mem hi))
 obtain⟨L,hL⟩:∃ L,(pts n (n*n)).length=L:=⟨_,rfl⟩
 have HL:=Kh hL
 have HCL:=Kh (show(wt+1)*L=C by rw[← hCn,← hL];rfl)
 rw[hL]at HPL
 have HCH:=Kh (show ∀ W,Below w.heap.size w W→∀ k c,ch[k]?=some c→W.cell? ⟨gc,oc+k*2,none⟩=some (.int .i64 c.1)∧W.cell? ⟨gc,oc+k*2+1,none⟩=some (.int .i64 c.2)from fun W hb k c hk=>⟨(hb.cell (p:=⟨gc,oc+k*2,none⟩) hgc).trans (hch k c hk).1,(hb.cell (p:=⟨gc,oc+k*2+1,none⟩) hgc).trans (hch k c hk).2.1⟩)
 have HBD:=Kh (show ∀ (k:Nat) (c:Int×Int),ch[k]?=some c→-1073741824≤c.1∧c.1≤1073741824∧-1073741824≤c.2∧c.2≤1073741824 from fun k c hk=>(hch k c hk).2.2)
 have HST:=Kh hst
 have HGC:=Kh hgc
 obtain⟨pv,cv,evv⟩:∃ p c,v=.slice p (wt+1) c:=by
  obtain⟨_,_,_,e',_⟩:=hp.resolve_left (fun h=>by omega)
  exact⟨_,_,e'⟩
 obtain⟨FL,hFL⟩:∃ FL,F.length=FL:=⟨_,rfl⟩
 rw[hFL]at hF HDI HRE HXS ⊢
 have HTS:=Kh (show ∀ k a b i j,ch[k]?=some a→ch[k+1]?=some b→i<wt+1→j<FL→hq (stT Q n wt D X a b (F.getD j 0) i)≤140000 from fun k a b i j ha hb hi hj=>by
  obtain⟨a1,a2,a3,a4⟩:=HBD.out k a ha
  obtain⟨b1,b2,b3,b4⟩:=HBD.out (k+1) b hb
  obtain⟨p1,p2,p3⟩:=HPL.out _ _ (HST.out k a b ha hb).2
  have hidx:i*L+(plcOf n D (stpM a b).2.1 (stpM a b).2.2).1<C:=by
   rw[← HCL.out]
   have h7:=Nat.mul_le_mul_right L (show i+1≤wt+1 by omega)
   rw[Nat.succ_mul]at h7
   omega
  have hs1:hq (subst Q wt (stpM a b).1.1 (stpM a b).1.2 (stpM a b).2.1 (stpM a b).2.2 (wt+1) i)≤123880:=by
   refine hq_substK (K:=4000) (fun q hq=>HQS.out q hq) (nd64 ?_ ?_) (nd64 ?_ ?_) (nd64 ?_ ?_) (nd64 ?_ ?_) (by omega) (by omega) <;>(unfold stpM;split <;>(dsimp only;omega))
  have hs2:hq (((plcOf n D (stpM a b).2.1 (stpM a b).2.2).2:Int):Rat)≤1:=by
   rw[hq_int]
   have:nd ((plcOf n D (stpM a b).2.1 (stpM a b).2.2).2).natAbs≤1:=nd_le.2 (by omega)
   omega
  have hs3:=HXS.out _ j hidx hj
  have h7:=hq_mul (subst Q wt (stpM a b).1.1 (stpM a b).1.2 (stpM a b).2.1 (stpM a b).2.2 (wt+1) i*((plcOf n D (stpM a b).2.1 (stpM a b).2.2).2:Rat)) (X (i*L+(plcOf n D (stpM a b).2.1 (stpM a b).2.2).1) (F.getD j 0))
  have h8:=hq_mul (subst Q wt (stpM a b).1.1 (stpM a b).1.2 (stpM a b).2.1 (stpM a b).2.2 (wt+1) i) ((plcOf n D (stpM a b).2.1 (stpM a b).2.2).2:Rat)
  unfold stT
  rw[HL.out]
  omega)
 have HSS:=Kh (show ∀ k a b i j,ch[k]?=some a→ch[k+1]?=some b→i≤wt+1→j<FL→hq (stS Q n wt D X a b (F.getD j 0) i)≤3300000 from fun k a b i j ha hb hi hj=>by
  have h7:=sumQ_size (stT Q n wt D X a b (F.getD j 0)) 140000 i (fun q hq=>HTS.out k a b q j ha hb (by omega) hj)
  have h8:i*(140000+1)≤23*140001:=Nat.mul_le_mul (by omega) (Nat.le_refl _)
  unfold stS
  omega)
 have HKS:=Kh (show ∀ k j,k+1≤ch.length→j<FL→hq (stC Q n wt D X ch (F.getD j 0) k)≤430000000 from fun k j hk hj=>by
  have h7:=sumQ_size (fun j'=>stS Q n wt D X (ch.getD j' (0,0)) (ch.getD (j'+1) (0,0)) (F.getD j 0) (wt+1)) 3300000 k (fun q hq=>HSS.out q _ _ (wt+1) j (by rw[List.getD_eq_getElem?_getD,List.getElem?_eq_getElem (show q<ch.length by omega)];rfl) (by rw[List.getD_eq_getElem?_getD,List.getElem?_eq_getElem (show q+1<ch.length by omega)];rfl) (Nat.le_refl _) hj)
  have h8:k*(3300000+1)≤130*3300001:=Nat.mul_le_mul (by omega) (Nat.le_refl _)
  unfold stC
  omega)
 subst evv
 have HFL:=Kh hFL
 clear hT hmod hX hp hch hst hck hCn hgc hQ hL hFL h1 h2 h3 h4 h5 h6 hB
 obtain⟨K,hK⟩:∃ K,ch.length=K:=⟨_,rfl⟩
 have HK:=Kh hK
 rw[hK]at hlen HKS ⊢
 clear hK
 go_enter Tryz.func47,Tryz.ntmps47
 have hmk:=makeQ FL (by omega)
 go_wp2_with fail
 refine(HSP.out w (Below.refl _ w)).mono ?_
 rintro e w1 ⟨rfl,hb1⟩
 go_wp2_with fail
 obtain⟨w2,hw2,X2,hb2⟩:=bx1 w1 #[.int .i64 n,.int .i64 ((wt:Int)+2),.int .i64 D] 40
 rw[hw2]
 have HW2:=Kh (hb1.trans (hb2.mono hb1.size))
 have hs2:w2.heap.size=w1.heap.size+1:=by rw[← hw2];simp
 refine(HDI.out w2 HW2.out).mono ?_
 rintro e w' ⟨rfl,hw'⟩
 obtain rfl:w2=w':=hw'.symm
 go_wp2_with fail
 have HRM:=Kh (QRow.made (fun _=>IsQ 0) w2 FL)
 obtain⟨wn,hwn⟩:∃ wn,w2.alloc (.cells (madeCells #[.bool false,.slice none 0 0,.bool false,.slice none 0 0] (FL*4)) 67)=wn:=⟨_,rfl⟩
 have HBN:=Kh (show Below w2.heap.size w2 wn from hwn▸(Below.refl _ _).alloc (Nat.le_refl _) _)
 rw[hwn]at HRM ⊢
 obtain⟨g,hg0⟩:∃ g,w1.heap.size+1=g:=⟨_,rfl⟩
 have hg:w2.heap.size=g:=hs2.trans hg0
 rw[hg]at HBN HRM
 try rw[hg]
 try rw[hg0]
 obtain⟨gs,hgs⟩:∃ gs,w1.heap.size=gs:=⟨_,rfl⟩
 rw[hgs]at X2
 try rw[hgs]
 have HX2:=Kh X2
 have HGE:=Kh hg
 have HWG:=Kh (show w.heap.size≤g from hg▸HW2.out.size)
 have HWB:=Kh (show ∀ W,Below g w2 W→Below w.heap.size w W from fun W hb=>HW2.out.trans (hb.mono HWG.out))
 have HGS:=Kh (show gs<g by omega)
 clear hb1 hw2 X2 hb2 hs2 hwn hg0 hg hgs hmk HSP HDI
 go_loopw [28] (fun i wr=>∃ k:Nat,k≤FL∧i=.int .i64 k∧QRow (fun _=>IsQ 0) wr g FL k∧Below g w2 wr) (fun i _=>FL - (intOf i).toNat)
 case atStart=>exact⟨0,Nat.zero_le _,rfl,HRM.out,HBN.out⟩
 case round=>
  obtain⟨k,hk,rfl,hrow,hbr⟩:=hrel
  obtain⟨wi,rfl⟩:∃ wi:World,wi=wr:=⟨_,rfl⟩
  have HROW:=Kh hrow
  have HBR:=Kh hbr
  have HSI:=Kh (show g≤wi.heap.size from HGE.out▸hbr.size)
  clear hrow hbr HBN HRM
  by_cases hlt:k<FL
  ·go_wp2_with fail
   refine(c_qOf 0 wi (by omega) (by omega)).mono ?_
   rintro e w3 ⟨⟨s3,p3,n3,c3,t3,q3,m3,d3,rfl,hq3⟩,hb3⟩
   have hr3:=QRow.keep (fun _=>IsQ.solid _) HROW.out hb3
   have HQA:=Kh (QRow.set (k':=k+1) (fun _=>IsQ.solid _) hr3 k hlt (fun _=>IsQ 0) (IsQ.solid _) (fun i h1 h2=>⟨by omega,rfl⟩) hq3)
   have HB3:=Kh (HBR.out.trans (hb3.mono HSI.out))
   obtain⟨u0,hu0⟩:=Option.isSome_iff_exists.1 (hr3.has (k*4) (by omega))
   obtain⟨u1,hu1⟩:=Option.isSome_iff_exists.1 (hr3.has (k*4+1) (by omega))
   obtain⟨u2,hu2⟩:=Option.isSome_iff_exists.1 (hr3.has (k*4+2) (by omega))
   obtain⟨u3,hu3⟩:=Option.isSome_iff_exists.1 (hr3.has (k*4+3) (by omega))
   have f0:=hr3.free (k*4) (by omega)
   have f1:=hr3.free (k*4+1) (by omega)
   have f2:=hr3.free (k*4+2) (by omega)
   have f3:=hr3.free (k*4+3) (by omega)
   clear hq3 hb3 hr3 HROW HBR
   go_wp2
   go_roundw
   case rel=>exact⟨k+1,by omega,by go_num,HQA.out,below_put4g HB3.out⟩
   case measure=>simp[intOf];omega
  ·obtain rfl:FL=k:=by omega
   have HRS:=Kh (HROW.out.congr (G:=fun j=>IsQ (stC Q n wt D X ch (F.getD j 0) 0)) (fun j _=>rfl))
   clear HROW hlt hk
   go_wp2
   go_loopw [11] (fun kk wx=>∃ k:Nat,(k=0∨k+1≤K)∧kk=.int .i64 k∧QRow (fun j=>IsQ (stC Q n wt D X ch (F.getD j 0) k)) wx g FL FL∧Below g w2 wx) (fun kk _=>K - (intOf kk).toNat)
   case atStart=>exact⟨0,.inl rfl,rfl,HRS.out,HBR.out⟩
   case round=>
    obtain⟨k,hk,rfl,hrow,hbr⟩:=hrel
    obtain⟨wk,rfl⟩:∃ wk:World,wk=wr:=⟨_,rfl⟩
    have HROW:=Kh hrow
    have HBK:=Kh hbr
    have HWK:=Kh (HWB.out wk hbr)
    have HSK:=Kh (show g≤wk.heap.size from HGE.out▸hbr.size)
    have hkb:k≤130:=by omega
    have HKK:=Kh hk
    clear hrow hbr HRS HBR HSI hk
    by_cases hlt:k+1<K
    ·have hki:(k:Int)+1<(K:Int):=by omega
     have hki0:(k:Int)<(K:Int):=by omega
     obtain⟨a,ha⟩:∃ a,ch[k]?=some a:=⟨_,List.getElem?_eq_getElem (by rw[HK.out];omega)⟩
     obtain⟨b,hb⟩:∃ b,ch[k+1]?=some b:=⟨_,List.getElem?_eq_getElem (by rw[HK.out];omega)⟩
     obtain⟨l0,l1⟩:=HCH.out wk HWK.out k a ha
     obtain⟨l2,l3⟩:=HCH.out wk HWK.out (k+1) b hb
     obtain⟨ba1,ba2,ba3,ba4⟩:=HBD.out k a ha
     obtain⟨bb1,bb2,bb3,bb4⟩:=HBD.out (k+1) b hb
     obtain⟨hdt,hsg⟩:=HST.out k a b ha hb
     have HSTP:=Kh (fun W=>c_step a.1 a.2 b.1 b.2 W ba1 ba2 ba3 ba4 bb1 bb2 bb3 bb4 hdt)
     have HTS1:=Kh (fun i j (hi:i<wt+1) (hj:j<FL)=>HTS.out k a b i j ha hb hi hj)
     have HSS1:=Kh (fun i j (hi:i≤wt+1) (hj:j<FL)=>HSS.out k a b i j ha hb hi hj)
     have HKS1:=Kh (fun j (hj:j<FL)=>HKS.out k j (by omega) hj)
     have HNX:=Kh (show ∀ f,stC Q n wt D X ch f (k+1)=stC Q n wt D X ch f k+stS Q n wt D X a b f (wt+1)from fun f=>by
      unfold stC
      rw[sumQ,List.getD_eq_getElem?_getD,ha,List.getD_eq_getElem?_getD,hb];rfl)
     have HSG:=Kh hsg
     have HMB:=Kh (show(-1073741824≤(stpM a b).1.1∧(stpM a b).1.1≤1073741824)∧(-1073741824≤(stpM a b).1.2∧(stpM a b).1.2≤1073741824)∧(-1073741824≤(stpM a b).2.1∧(stpM a b).2.1≤1073741824)∧(-1073741824≤(stpM a b).2.2∧(stpM a b).2.2≤1073741824)from by unfold stpM;split <;>(dsimp only;omega))
     obtain⟨T,hT⟩:∃ T:Nat→Nat→Rat,(fun f i=>stT Q n wt D X a b f i)=T:=⟨_,rfl⟩
     obtain⟨S,hS⟩:∃ S:Nat→Nat→Rat,(fun f i=>stS Q n wt D X a b f i)=S:=⟨_,rfl⟩
     obtain⟨A0,hA0⟩:∃ A0:Nat→Rat,(fun f=>stC Q n wt D X ch f k)=A0:=⟨_,rfl⟩
     have HSX:=Kh (show ∀ f i,S f (i+1)=S f i+T f i from fun f i=>by rw[← hS,← hT];rfl)
     have HSZ:=Kh (show ∀ f,S f 0=0 from fun f=>by rw[← hS];rfl)
     have HTD:=Kh (show ∀ f i,T f i=subst Q wt (stpM a b).1.1 (stpM a b).1.2 (stpM a b).2.1 (stpM a b).2.2 (wt+1) i*((plcOf n D (stpM a b).2.1 (stpM a b).2.2).2:Rat)*X (i*L+(plcOf n D (stpM a b).2.1 (stpM a b).2.2).1) f from fun f i=>by rw[← hT,← HL.out];rfl)
     have HRW:=Kh (show QRow (fun j=>IsQ (A0 (F.getD j 0))) wk g FL FL from HROW.out.congr (fun j _=>by rw[← hA0]))
     have HNX:=Kh (show ∀ f,stC Q n wt D X ch f (k+1)=A0 f+S f (wt+1)from fun f=>by rw[HNX.out,← hA0,← hS])
     have HAC:=Kh (show ∀ i j,i≤wt+1→j<FL→hq (A0 (F.getD j 0)+S (F.getD j 0) i)≤440000000 from fun i j hi hj=>by
      have h7:=HKS1.out j hj
      have h8:=HSS1.out i j hi hj
      rw[← hA0,← hS]
      have h9:=hq_add (stC Q n wt D X ch (F.getD j 0) k) (stS Q n wt D X a b (F.getD j 0) i)
      dsimp only
      omega)
     have HSBS:=Kh (show ∀ i,hq (subst Q wt (stpM a b).1.1 (stpM a b).1.2 (stpM a b).2.1 (stpM a b).2.2 (wt+1) i)≤123880 from fun i=>by
      obtain⟨⟨m1,m2⟩,⟨m3,m4⟩,⟨m5,m6⟩,m7,m8⟩:=HMB.out
      exact hq_substK (K:=4000) (fun q hq=>HQS.out q hq) (nd64 m1 m2) (nd64 m3 m4) (nd64 m5 m6) (nd64 m7 m8) (by omega) (by omega))
     obtain⟨p1,p2,p3⟩:=HPL.out _ _ hsg
     obtain⟨MM,hMM⟩:∃ MM,stpM a b=MM:=⟨_,rfl⟩
     obtain⟨⟨mA,mB⟩,⟨mC,mD⟩⟩:=MM
     rw[hMM]at HSTP HSG HMB HTD HSBS p1 p2 p3
     dsimp only at HSTP HSG HMB HTD HSBS p1 p2 p3
     obtain⟨pc,hpc⟩:∃ pc,plcOf n D mC mD=pc:=⟨_,rfl⟩
     have HPC:=Kh hpc
     rw[hpc]at HTD p1 p2 p3
     have HP1:=Kh p1
     clear ha hb hdt hsg hT hS hA0 ba1 ba2 ba3 ba4 bb1 bb2 bb3 bb4 HROW hMM hpc p1 HTS1 HSS1 HKS1
     obtain⟨k1,hk1⟩:∃ k1,k+1=k1:=⟨_,rfl⟩
     rw[hk1]at l2 l3
     have hkw:IntKind.i64.wrap ((k:Int)+1)=(k1:Nat):=by rw[show(k:Int)+1=(k1:Nat)by omega];exact IntWalk.i64_in _ (by omega)
     have hk1i:(k1:Int)<(K:Int):=by omega
     have HK1:=Kh hk1
     clear hk1
     have hgk0:g<wk.heap.size:=HRW.out.sts.1
     go_upto_region 11 with(fail)
     go_cut [12,13]from 43 to 55 (fun v12 v13 wx=>∃ gm,v12=.pointer (some ⟨gm,0,none⟩)∧v13=.bool true∧Blk wx gm 28 #[.int .i64 mA,.int .i64 mB,.int .i64 mC,.int .i64 mD]∧g<gm∧Below wk.heap.size wk wx)
     case first=>
      refine rgX [12,15] (fun W=>W.cell? ⟨gc,oc+k*2,none⟩=some (.int .i64 a.1)∧W.cell? ⟨gc,oc+k*2+1,none⟩=some (.int .i64 a.2)∧W.cell? ⟨gc,oc+k1*2,none⟩=some (.int .i64 b.1)∧W.cell? ⟨gc,oc+k1*2+1,none⟩=some (.int .i64 b.2)) (fun W hb=>⟨cnx hb l0,cnx hb l1,cnx hb l2,cnx hb l3⟩) (fun HSE hHeld0=>?_)
      clear l0 l1 l2 l3
      refine tkX 0 ?_;refine tkX 1 ?_;refine tkX 2 ?_;refine tkX 3 ?_;refine tkX 4 ?_;refine tkX 5 ?_;refine tkX 6 ?_;refine tkX 7 ?_;refine tkX 8 ?_
      refine rd2X 9 13 rfl rfl (fun K hK=>?_) (fun K hK=>?_)
      ·focus(go_simp;refine(HSTP.out _).mono ?_;rintro e w5 ⟨rfl,hb5⟩;have HB5:=Kh ((Below.refl _ wk).drew.trans hb5:Below wk.heap.size wk w5);clear hb5;(first|with_reducible refine hK.out _ _ ?_ (fun hHeld1=>?_) |(go_wp2_with fail;with_reducible refine hK.out _ _ ?_ (fun hHeld1=>?_))))
       focus((try dsimp only);exact HSE.out _ HB5.out)
       focus(clear hK K;(try simp only[Act.put,lsa,lsz,lss]))
       refine tkX 10 ?_;refine tkX 11 ?_;refine tkI 12 ?_
       refine stX 13 rfl (fun K hK=>?_)
       focus(go_simp;refine hK.out _ _ ?_ (fun hHeld2=>?_))
       focus((try dsimp only);exact HSE.out _ (HB5.out.alloc HB5.out.size _))
       focus(clear hK K;(try simp only[Act.put,lsa,lsz,lss]))
       refine snX 14 rfl (fun K hK=>?_)
       go_simp
       refine hK.out _ _ ?_
       clear hK K
       (try simp only[Act.put,lsa,lsz,lss])
       refine tkJ 15 ?_
       refine dnX ?_
       go_wp2
       go_meet
       exact⟨w5.heap.size,rfl,rfl,Blk.new w5 28 #[.int .i64 mA,.int .i64 mB,.int .i64 mC,.int .i64 mD],by have:=HB5.out.size;omega,HB5.out.alloc HB5.out.size _⟩
      ·focus(go_simp;refine hK.out _ _ ?_ (fun hHeld1=>?_))
       focus((try dsimp only);exact HSE.out _ ((Below.refl _ wk).drew.alloc (Nat.le_refl _) _))
       focus(clear hK K;(try simp only[Act.put,lsa,lsz,lss]))
       refine stX 9 rfl (fun K hK=>?_)
       focus(go_simp;refine(HSTP.out _).mono ?_;rintro e w5 ⟨rfl,hb5⟩;have HB5:=Kh (((Below.refl _ wk).drew.alloc (Nat.le_refl _) _).trans (hb5.mono (by simp)):Below wk.heap.size wk w5);have HXN:=Kh (show Blk w5 wk.heap.size 28 #[.int .i64 0,.int .i64 0,.int .i64 0,.int .i64 0]from(Blk.new wk.drew 28 #[.int .i64 0,.int .i64 0,.int .i64 0,.int .i64 0]).below_ hb5 (by simp));clear hb5;(first|with_reducible refine hK.out _ _ ?_ (fun hHeld2=>?_) |(go_wp2_with fail;with_reducible refine hK.out _ _ ?_ (fun hHeld2=>?_))))
       focus((try dsimp only);exact HSE.out _ HB5.out)
       focus(clear hK K;(try simp only[Act.put,lsa,lsz,lss]))
       refine tkX 10 ?_;refine tkX 11 ?_;refine tkI 12 ?_
       have n0:=HXN.out.at_ 0 rfl
       have n1:=HXN.out.at_ 1 rfl
       have n2:=HXN.out.at_ 2 rfl
       have n3:=HXN.out.at_ 3 rfl
       have nf0:=HXN.out.free_ 0
       have nf1:=HXN.out.free_ 1
       have nf2:=HXN.out.free_ 2
       have nf3:=HXN.out.free_ 3
       refine snX 14 rfl (fun K hK=>?_)
       go_simp
       refine hK.out _ _ ?_
       clear hK K
       (try simp only[Act.put,lsa,lsz,lss])
       refine tkJ 15 ?_
       refine dnX ?_
       go_wp2
       go_meet
       exact⟨wk.heap.size,rfl,rfl,(((HXN.out.set_ 0 (.int .i64 mA)).set_ 1 (.int .i64 mB)).set_ 2 (.int .i64 mC)).set_ 3 (.int .i64 mD),hgk0,(((HB5.out.setCell (p:=⟨wk.heap.size,0,none⟩) (Nat.le_refl _) _).setCell (p:=⟨wk.heap.size,1,none⟩) (Nat.le_refl _) _).setCell (p:=⟨wk.heap.size,2,none⟩) (Nat.le_refl _) _).setCell (p:=⟨wk.heap.size,3,none⟩) (Nat.le_refl _) _⟩
     case rest=>
     obtain⟨gm,rfl,rfl,XM,hgm,hb6⟩:=hcut
     obtain⟨w6,rfl⟩:∃ w6:World,w6=wc:=⟨_,rfl⟩
     have HK6:=Kh hb6
     have HGM:=Kh hgm
     have HXM:=Kh XM
     have HW6:=Kh (HWK.out.trans (HK6.out.mono HWK.out.size))
     clear XM hb6 hgm HSTP l0 l1 l2 l3
     have q0:=HXM.out.at_ 0 rfl
     have q1:=HXM.out.at_ 1 rfl
     have q2:=HXM.out.at_ 2 rfl
     have q3:=HXM.out.at_ 3 rfl
     go_wp2_with fail
     obtain⟨⟨m1,m2⟩,⟨m3,m4⟩,⟨m5,m6⟩,m7,m8⟩:=HMB.out
     refine(HSU.out w6 mA mB mC mD HW6.out m1 m2 m3 m4 m5 m6 m7 m8).mono ?_
     rintro e w7 ⟨⟨gq,rfl,hgq,hsub⟩,hb7⟩
     rw[HQ.out,Nat.add_sub_cancel]at hsub
     obtain⟨SB,hSB⟩:∃ SB:Nat→Rat,(fun i=>subst Q wt mA mB mC mD (wt+1) i)=SB:=⟨_,rfl⟩
     have HSUB:=Kh (show QRow (fun j=>IsQ (SB j)) w7 gq (wt+1) (wt+1)from hsub.congr (fun j _=>by rw[← hSB]))
     have HTD:=Kh (show ∀ f i,T f i=SB i*(pc.2:Rat)*X (i*L+pc.1) f from fun f i=>by rw[HTD.out,← hSB])
     have HSBS:=Kh (show ∀ i,hq (SB i)≤123880 from fun i=>by rw[← hSB];exact HSBS.out i)
     have HK7:=bt HK6 hb7
     have HXM7:=Kh (bk HXM hb7)
     have HBX:=Kh (HBK.out.trans (HK7.out.mono HSK.out))
     have HX7:=Kh (HX2.out.below_ (show Below w2.heap.size w2 w7 from by rw[HGE.out];exact HBX.out) HX2.out.lt)
     have HR7:=Kh (show QRow (fun j=>IsQ (A0 (F.getD j 0)+S (F.getD j 0) 0)) w7 g FL FL from(HRW.out.keep (fun _=>IsQ.solid _) HK7.out).congr (fun j _=>by rw[HSZ.out,Rat.add_zero]))
     have HGQ:=Kh (show g<gq by have:=HK6.out.size;omega)
     have HS7:=Kh (show g≤w7.heap.size by have:=HK7.out.size;omega)
     clear hgq hsub hb7 hSB HRW HK6 HXM HW6 HSZ q0 q1 q2 q3
     go_wp2_with fail
     go_loopw [62] (fun ii wx=>∃ i:Nat,i≤wt+1∧ii=.int .i64 i∧QRow (fun j=>IsQ (A0 (F.getD j 0)+S (F.getD j 0) i)) wx g FL FL∧w7.grownBy wx (some g)∧I32 w7 wx) (fun ii _=>wt+1 - (intOf ii).toNat)
     case atStart=>exact⟨0,Nat.zero_le _,rfl,HR7.out,but_below g (Below.refl _ _),I32.refl _⟩
     case round=>
      obtain⟨i,hi,rfl,hrow,hgr,h32⟩:=hrel
      obtain⟨wi,rfl⟩:∃ wi:World,wi=wr:=⟨_,rfl⟩
      have HROW:=Kh hrow
      have HGR:=Kh hgr
      have H32:=Kh h32
      have HBI:=Kh (below_but HBX.out hgr HS7.out (Nat.le_refl _))
      have HWI:=Kh (HWB.out wi HBI.out)
      have hgi:g<wi.heap.size:=hrow.sts.1
      clear hrow hgr h32 HR7
      by_cases hlt:i<wt+1
      ·have hii:(i:Int)<((wt+1:Nat):Int):=by omega
       have hii2:(i:Int)<(wt:Int)+1:=by omega
       obtain⟨s1,p1,n1,c1,t1,q1,m1,d1,a0,a1,a2,a3,hx⟩:=(HSUB.out.i32 (fun _=>IsQ.solid _) H32.out HGR.out (by have:=HGQ.out;omega)).val i hlt
       have HP:=Kh (show Qs wi s1 p1 n1 c1 t1 q1 m1 d1 (SB i)from hx)
       have hnm:(some gm:Option Nat)≠some g:=fun e=>by injection e with e;have:=HGM.out;omega
       have hns:(some gs:Option Nat)≠some g:=fun e=>by injection e with e;have:=HGS.out;omega
       have c2:=HGR.out.cell (HXM7.out.at_ 2 rfl) hnm
       have c3:=HGR.out.cell (HXM7.out.at_ 3 rfl) hnm
       have s0':=HGR.out.cell (HX7.out.at_ 0 rfl) hns
       have s1':=HGR.out.cell (HX7.out.at_ 1 rfl) hns
       have s2':=HGR.out.cell (HX7.out.at_ 2 rfl) hns
       have HSGN:=Kh (fun w1 (hb:Below wi.heap.size wi w1)=>c_qSignQ s1 p1 n1 c1 t1 q1 m1 d1 (SB i) w1 (HP.out.keep hb) (by have:=HSBS.out i;omega))
       clear hx hnm hns
       go_wp2_with fail
       refine(HSGN.out _ ((Below.refl _ _).alloc (Nat.le_refl _) _)).mono ?_
       rintro e w8 ⟨⟨sg,rfl,hsg⟩,hb8⟩
       have HBE:=Kh (((Below.refl _ wi).alloc (Nat.le_refl _) (.cells #[.bool s1,.slice p1 n1 c1,.bool t1,.slice q1 m1 d1] 67)).trans (hb8.mono (by simp)))
       have hxb:=(Blk.new wi 67 #[.bool s1,.slice p1 n1 c1,.bool t1,.slice q1 m1 d1]).below_ hb8 (by simp)
       obtain⟨gb,hgb⟩:∃ x,wi.heap.size=x:=⟨_,rfl⟩
       have HGB:=Kh hgb
       rw[hgb]at hxb ⊢
       have HXB:=Kh hxb
       have c2:=cell_next HBE.out c2
       have c3:=cell_next HBE.out c3
       have s0':=cell_next HBE.out s0'
       have s1':=cell_next HBE.out s1'
       have s2':=cell_next HBE.out s2'
       clear hb8 HSGN a0 a1 a2 a3 hxb hgb
       by_cases hz:SB i=0
       ·obtain rfl:sg=0:=hsg.2 hz
        have HRN:=Kh (QRow.congr (G:=fun j=>IsQ (A0 (F.getD j 0)+S (F.getD j 0) (i+1))) (HROW.out.keep (fun _=>IsQ.solid _) HBE.out) (fun j _=>by rw[HSX.out,HTD.out,hz,Rat.zero_mul,Rat.zero_mul,Rat.add_zero]))
        have HGN:=Kh (HGR.out.trans (but_below g HBE.out))
        have HIN:=Kh (H32.out.trans (I32.below HBE.out))
        clear hz hsg c2 c3 s0' s1' s2'
        go_wp2
        go_roundw
        case rel=>exact⟨i+1,by omega,by go_num,HRN.out,HGN.out,HIN.out⟩
        case measure=>simp[intOf];omega
       ·have hse:(sg==0)=false:=by rw[beq_eq_false_iff_ne];exact fun e=>hz (hsg.1 e)
        obtain⟨ix,hix⟩:∃ x,i*L+pc.1=x:=⟨_,rfl⟩
        have HIX:=Kh (show ix<C by
         rw[← hix,← HCL.out]
         have h7:=Nat.mul_le_mul_right L (show i+1≤wt+1 by omega)
         have h8:=HP1.out
         rw[Nat.succ_mul]at h7
         omega)
        have HNU1:=Kh (fun W (hb:Below w.heap.size w W)=>show Calls Tryz.prog 86 #[.agg #[.int .i64 n,.int .i64 ((wt:Int)+2),.int .i64 D],.agg #[.int .i64 i,.int .i64 mC,.int .i64 mD]] W fun e w'=>e=.returned (.tuple #[.int .i64 (ix:Int),.int .i64 pc.2,.int .i64 0])∧Below W.heap.size W w' from by
         have h:=HNU.out W i mC mD hb (by omega) HSG.out
         rw[HL.out,HPC.out,hix]at h
         exact h)
        have HTI:=Kh (show ∀ f,T f i=SB i*(pc.2:Rat)*X ix f from fun f=>by rw[HTD.out,hix])
        have HW8:=Kh (HWI.out.trans (HBE.out.mono HWI.out.size))
        clear hz hsg hix
        go_wp2_with fail
        refine(HNU1.out w8 HW8.out).mono ?_
        rintro e w9 ⟨rfl,hb9⟩
        have HW9:=bt HW8 hb9
        have HB9:=bt HBE hb9
        have HX9:=Kh (bk HXB hb9)
        clear c2 c3 s0' s1' s2' hb9 hse HXB
        go_wp2_with fail
        refine(HRE.out w9 ix HW9.out HIX.out).mono ?_
        rintro e wd ⟨⟨gx,rfl,hgx,hrx⟩,hbd⟩
        have HRX:=Kh hrx
        have HBDD:=bt HB9 hbd
        have HXD:=Kh (bk HX9 hbd)
        have HGX:=Kh (show gb<gx from Nat.lt_of_lt_of_le HX9.out.lt hgx)
        have y0:=HXD.out.at_ 0 rfl
        have y1:=HXD.out.at_ 1 rfl
        have y2:=HXD.out.at_ 2 rfl
        have y3:=HXD.out.at_ 3 rfl
        have fy0:=HXD.out.free_ 0
        have fy1:=HXD.out.free_ 1
        have fy2:=HXD.out.free_ 2
        have fy3:=HXD.out.free_ 3
        have HML:=Kh (fun s5 p5 n5 c5 t5 q5 m5 d5 W (hb:Below wd.heap.size wd W) (hq5:Qs W s5 p5 n5 c5 t5 q5 m5 d5 ((pc.2:Int):Rat))=>c_qMulQ s1 p1 n1 c1 t1 q1 m1 d1 (SB i) s5 p5 n5 c5 t5 q5 m5 d5 ((pc.2:Int):Rat) W ((HP.out.keep HBDD.out).keep hb) hq5 (by have:=HSBS.out i;omega) (by rw[hq_int];have:nd pc.2.natAbs≤1:=nd_le.2 (by omega);omega))
        clear hgx hrx hbd HW9 HX9 HB9
        go_upto_region 24 with(fail)
        refine rgB (fun W=>W.cell? ⟨gb,0,none⟩=some (.bool s1)∧W.frozen? ⟨gb,0,none⟩=false∧W.cell? ⟨gb,1,none⟩=some (.slice p1 n1 c1)∧W.frozen? ⟨gb,1,none⟩=false∧W.cell? ⟨gb,2,none⟩=some (.bool t1)∧W.frozen? ⟨gb,2,none⟩=false∧W.cell? ⟨gb,3,none⟩=some (.slice q1 m1 d1)∧W.frozen? ⟨gb,3,none⟩=false) (fun W hb=>⟨cnx hb y0,frozen_keep hb (by rw[y0];rfl) (fy0),cnx hb y1,frozen_keep hb (by rw[y1];rfl) (fy1),cnx hb y2,frozen_keep hb (by rw[y2];rfl) (fy2),cnx hb y3,frozen_keep hb (by rw[y3];rfl) (fy3)⟩) (fun HSE hHeld0=>?_)
        clear y0 y1 y2 y3 fy0 fy1 fy2 fy3
        refine tkE 0 ?_;refine tkE 1 ?_
        refine stE 2 rfl (fun K hK=>?_)
        focus(go_simp;refine(c_qOf pc.2 _ (by omega) (by omega)).mono ?_;rintro e v5 ⟨⟨s5,p5,n5,c5,t5,q5,m5,d5,rfl,hz5⟩,hb5⟩;have HV5:=Kh ((Below.refl _ wd).drew.trans hb5:Below wd.heap.size wd v5);have HZ5:=Kh hz5;clear hz5 hb5;(first|with_reducible refine hK.out _ _ ?_ (fun hHeld1=>?_) |(go_wp2_with fail;with_reducible refine hK.out _ _ ?_ (fun hHeld1=>?_))))
        focus((try dsimp only);exact HSE.out _ HV5.out)
        focus(clear hK K;(try simp only[Act.put,lsa,lsz,lss]))
        refine stE 3 rfl (fun K hK=>?_)
        focus(go_simp;refine(HML.out _ _ _ _ _ _ _ _ _ HV5.out HZ5.out).mono ?_;rintro e v6 ⟨⟨s6,p6,n6,c6,t6,q6,m6,d6,rfl,hz6⟩,hb6⟩;have HV6:=bt HV5 hb6;have HZ6:=Kh hz6;clear hz6 hb6;(first|with_reducible refine hK.out _ _ ?_ (fun hHeld2=>?_) |(go_wp2_with fail;with_reducible refine hK.out _ _ ?_ (fun hHeld2=>?_))))
        focus((try dsimp only);exact HSE.out _ HV6.out)
        focus(clear hK K;(try simp only[Act.put,lsa,lsz,lss]))
        refine laE 4 rfl (fun K hK=>?_)
        go_simp
        refine hK.out _ _ ?_
        clear hK K
        (try simp only[Act.put,lsa,lsz,lss])
        have XQ:=((((HXD.out.below_ HV6.out HXD.out.lt).set_ 0 (.bool s6)).set_ 1 (.slice p6 n6 c6)).set_ 2 (.bool t6)).set_ 3 (.slice q6 m6 d6)
        have hst6:Sts v6 gb:=Sts.of (HXD.out.below_ HV6.out HXD.out.lt) (by intro v hv;simp at hv;rcases hv with rfl|rfl|rfl|rfl <;> first|exact NotInt.bool _|exact NotInt.slice _ _ _)
        have h326:=I32.put4 hst6 0 1 2 3 (.bool s6) (.slice p6 n6 c6) (.bool t6) (.slice q6 m6 d6) (NotInt.bool _) (NotInt.slice _ _ _) (NotInt.bool _)
        have hg6:=but_put4 v6 gb 0 1 2 3 (.bool s6) (.slice p6 n6 c6) (.bool t6) (.slice q6 m6 d6)
        obtain⟨wq,hwq⟩:∃ wq,((((v6.setCell ⟨gb,0,none⟩ (.bool s6)).setCell ⟨gb,1,none⟩ (.slice p6 n6 c6)).setCell ⟨gb,2,none⟩ (.bool t6)).setCell ⟨gb,3,none⟩ (.slice q6 m6 d6))=wq:=⟨_,rfl⟩
        rw[hwq]at XQ h326 hg6 ⊢
        have HBQ:=Kh (show Below wi.heap.size wi wq from below_but (HBDD.out.trans (HV6.out.mono HBDD.out.size)) hg6 (by have:=HBDD.out.size;have:=HV6.out.size;omega) (by have:=HGB.out;omega))
        have HXQ:=Kh XQ
        have HQZ:=Kh (HZ6.out.i32 h326)
        have HRQ:=Kh (((HRX.out.keep (fun _=>IsQ.solid _) HV6.out).i32 (fun _=>IsQ.solid _) h326 hg6 (by have:=HGX.out;omega)))
        obtain⟨z,hz⟩:∃ z,SB i*((pc.2:Int):Rat)=z:=⟨_,rfl⟩
        rw[hz]at HQZ HTI
        have HZS:=Kh (show hq z≤125000 by
         rw[← hz]
         have h7:=hq_mul (SB i) ((pc.2:Int):Rat)
         have h8:=HSBS.out i
         have h9:hq ((pc.2:Int):Rat)≤1:=by rw[hq_int];have:nd pc.2.natAbs≤1:=nd_le.2 (by omega);omega
         omega)
        obtain⟨A,hA⟩:∃ A:Nat→Rat,(fun j=>A0 (F.getD j 0)+S (F.getD j 0) i)=A:=⟨_,rfl⟩
        obtain⟨Y,hY⟩:∃ Y:Nat→Rat,(fun j=>X ix (F.getD j 0))=Y:=⟨_,rfl⟩
        have HAE:=Kh hA
        have HYE:=Kh hY
        have HAS:=Kh (show ∀ j,j<FL→hq (A j)≤440000000 from fun j hj=>by rw[← hA];exact HAC.out i j hi hj)
        have HYS:=Kh (show ∀ j,j<FL→hq (Y j)≤10000 from fun j hj=>by rw[← hY];exact HXS.out ix j HIX.out hj)
        have HRY:=Kh (show QRow (fun j=>IsQ (Y j)) wq gx FL FL from HRQ.out.congr (fun j _=>by rw[← hY]))
        have HRA:=Kh (show QRow (addQ A Y z 0) wq g FL FL from(HROW.out.keep (fun _=>IsQ.solid _) HBQ.out).congr (fun j _=>by unfold addQ;rw[if_neg (Nat.not_lt_zero j),← hA]))
        have hgx2:gx≠g:=by have:=HGX.out;have:=HGB.out;omega
        have hgb2:gb≠g:=by have:=HGB.out;omega
        have HGXG:=Kh hgx2
        have HGBG:=Kh hgb2
        clear XQ hst6 h326 hg6 hwq hz hA hY hgx2 hgb2 HSE HML HV5 HV6 HZ5 HZ6 HRX HBDD HXD HRQ hHeld0 hHeld1 hHeld2
        go_wp2_with fail
        go_loopw [100] (fun jj wx=>∃ j:Nat,j≤FL∧jj=.int .i64 j∧QRow (addQ A Y z j) wx g FL FL∧wq.grownBy wx (some g)∧I32 wq wx) (fun jj _=>FL - (intOf jj).toNat)
        case atStart=>exact⟨0,Nat.zero_le _,rfl,HRA.out,but_below g (Below.refl _ _),I32.refl _⟩
        case round=>
         obtain⟨j,hj,rfl,hrow2,hgr2,h322⟩:=hrel
         obtain⟨we,rfl⟩:∃ we:World,we=wr:=⟨_,rfl⟩
         have HROW2:=Kh hrow2
         have HGR2:=Kh hgr2
         have H322:=Kh h322
         clear hrow2 hgr2 h322 HRA
         by_cases hlj:j<FL
         ·have hji:(j:Int)<(FL:Int):=by omega
          have hnb:(some gb:Option Nat)≠some g:=fun e=>by injection e with e;exact HGBG.out e
          have y0:=HGR2.out.cell (HXQ.out.at_ 0 rfl) hnb
          have y1:=HGR2.out.cell (HXQ.out.at_ 1 rfl) hnb
          have y2:=HGR2.out.cell (HXQ.out.at_ 2 rfl) hnb
          have y3:=HGR2.out.cell (HXQ.out.at_ 3 rfl) hnb
          obtain⟨s7,p7,n7,c7,t7,q7,m7,d7,a0,a1,a2,a3,hx7⟩:=(HRY.out.i32 (fun _=>IsQ.solid _) H322.out HGR2.out HGXG.out).val j hlj
          obtain⟨s5,p5,n5,c5,t5,q5,m5,d5,e0,e1,e2,e3,hx5⟩:=addQ.elem HROW2.out hlj
          have HF5:=Kh (show Qs we s5 p5 n5 c5 t5 q5 m5 d5 (A j)from hx5)
          have HF7:=Kh (show Qs we s7 p7 n7 c7 t7 q7 m7 d7 (Y j)from hx7)
          have HQZ2:=Kh (HQZ.out.i32 H322.out)
          have HAJ:=Kh (HAS.out j hlj)
          have HSM:=Kh (show hq (z*Y j)≤140000 by
           have h7:=hq_mul z (Y j)
           have h8:=HZS.out
           have h9:=HYS.out j hlj
           omega)
          have HM1:=Kh (fun w1 (hb:Below we.heap.size we w1)=>c_qMulQ s6 p6 n6 c6 t6 q6 m6 d6 z s7 p7 n7 c7 t7 q7 m7 d7 (Y j) w1 (HQZ2.out.keep hb) (HF7.out.keep hb) (by have:=HZS.out;omega) (by have:=HYS.out j hlj;omega))
          have hra:=HROW2.out
          have hn1:=HGXG.out
          have hn2:=HGBG.out
          have hn3:g<we.heap.size:=hra.sts.1
          clear hx7 hx5 hnb
          go_upto_region 28 with(fail)
          refine rgB (fun W=>W.cell? ⟨gb,0,none⟩=some (.bool s6)∧W.cell? ⟨gb,1,none⟩=some (.slice p6 n6 c6)∧W.cell? ⟨gb,2,none⟩=some (.bool t6)∧W.cell? ⟨gb,3,none⟩=some (.slice q6 m6 d6)∧W.cell? ⟨gx,j*4,none⟩=some (.bool s7)∧W.cell? ⟨gx,j*4+1,none⟩=some (.slice p7 n7 c7)∧W.cell? ⟨gx,j*4+2,none⟩=some (.bool t7)∧W.cell? ⟨gx,j*4+3,none⟩=some (.slice q7 m7 d7)∧W.cell? ⟨g,j*4,none⟩=some (.bool s5)∧W.frozen? ⟨g,j*4,none⟩=false∧W.cell? ⟨g,j*4+1,none⟩=some (.slice p5 n5 c5)∧W.frozen? ⟨g,j*4+1,none⟩=false∧W.cell? ⟨g,j*4+2,none⟩=some (.bool t5)∧W.frozen? ⟨g,j*4+2,none⟩=false∧W.cell? ⟨g,j*4+3,none⟩=some (.slice q5 m5 d5)∧W.frozen? ⟨g,j*4+3,none⟩=false) (fun W hb=>⟨cnx hb y0,cnx hb y1,cnx hb y2,cnx hb y3,cnx hb a0,cnx hb a1,cnx hb a2,cnx hb a3,cnx hb e0,frozen_keep hb (by rw[e0];rfl) (hra.free _ (by omega)),cnx hb e1,frozen_keep hb (by rw[e1];rfl) (hra.free _ (by omega)),cnx hb e2,frozen_keep hb (by rw[e2];rfl) (hra.free _ (by omega)),cnx hb e3,frozen_keep hb (by rw[e3];rfl) (hra.free _ (by omega))⟩) (fun HSE hHeld0=>?_)
          clear y0 y1 y2 y3 a0 a1 a2 a3 e0 e1 e2 e3 hra
          refine tkE 0 ?_;refine tkE 1 ?_;refine tkE 2 ?_;refine tkE 3 ?_;refine tkE 4 ?_;refine tkE 5 ?_;refine tkE 6 ?_;refine tkE 7 ?_;refine tkE 8 ?_;refine tkE 9 ?_;refine tkE 10 ?_
          refine stE 11 rfl (fun K hK=>?_)
          focus(go_simp;refine(HM1.out _ (Below.refl _ we).drew).mono ?_;rintro e w2 ⟨⟨s3,p3,n3,c3,t3,q3,m3,d3,rfl,hz3⟩,hb3⟩;have HB3:=Kh ((Below.refl _ we).drew.trans hb3:Below we.heap.size we w2);have HZ3:=Kh hz3;clear hz3 hb3;(first|with_reducible refine hK.out _ _ ?_ (fun hHeld1=>?_) |(go_wp2_with fail;with_reducible refine hK.out _ _ ?_ (fun hHeld1=>?_))))
          focus((try dsimp only);exact HSE.out _ HB3.out)
          focus(clear hK K;(try simp only[Act.put,lsa,lsz,lss]))
          refine stE 12 rfl (fun K hK=>?_)
          focus(go_simp;refine(c_qAddQ s5 p5 n5 c5 t5 q5 m5 d5 (A j) s3 p3 n3 c3 t3 q3 m3 d3 (z*Y j) _ (HF5.out.keep HB3.out) HZ3.out (by have:=HAJ.out;omega) (by have:=HSM.out;omega)).mono ?_;rintro e w4 ⟨⟨s8,p8,n8,c8,t8,q8,m8,d8,rfl,hz6⟩,hb6⟩;have HBF:=bt HB3 hb6;have hrr:=QRow.keep (fun i=>(IsQ.solid _:Solid (addQ A Y z j i))) HROW2.out HBF.out;have HPUT:=Kh (addQ.put hrr hlj hz6);have HG4:=Kh (show ∀ v0 v1 v2 v3,wq.grownBy ((((w4.setCell ⟨g,j*4,none⟩ v0).setCell ⟨g,j*4+1,none⟩ v1).setCell ⟨g,j*4+2,none⟩ v2).setCell ⟨g,j*4+3,none⟩ v3) (some g)from fun _ _ _ _=>add_grown HGR2.out HBF.out);have H4:=Kh ((H322.out.trans (I32.below HBF.out)).trans (I32.put4 hrr.sts (j*4) (j*4+1) (j*4+2) (j*4+3) (.bool s8) (.slice p8 n8 c8) (.bool t8) (.slice q8 m8 d8) (NotInt.bool _) (NotInt.slice _ _ _) (NotInt.bool _)));clear hz6 hb6 hrr;(first|with_reducible refine hK.out _ _ ?_ (fun hHeld2=>?_) |(go_wp2_with fail;with_reducible refine hK.out _ _ ?_ (fun hHeld2=>?_))))
          focus((try dsimp only);exact HSE.out _ HBF.out)
          focus(clear hK K;(try simp only[Act.put,lsa,lsz,lss]))
          refine tkE 13 ?_
          refine laE 14 rfl (fun K hK=>?_)
          go_simp
          refine hK.out _ _ ?_
          clear hK K
          (try simp only[Act.put,lsa,lsz,lss])
          all_goals clear HROW2 HGR2 H322
          all_goals go_wp2
          all_goals go_roundw
          all_goals first
           | exact⟨j+1,by omega,by go_num,HPUT.out,HG4.out _ _ _ _,H4.out⟩
           |(simp[intOf];omega)
         ·obtain rfl:j=FL:=by omega
          have HRE2:=Kh (show QRow (fun q=>IsQ (A0 (F.getD q 0)+S (F.getD q 0) (i+1))) we g j j from HROW2.out.congr (fun q hq=>by
           unfold addQ
           rw[if_pos hq,HSX.out,HTI.out,← HAE.out,← HYE.out]
           congr 1
           grind))
          have HGE2:=Kh ((HGR.out.trans (but_below g HBQ.out)).trans HGR2.out)
          have HIE2:=Kh ((H32.out.trans (I32.below HBQ.out)).trans H322.out)
          clear HROW2 HGR2 H322
          go_wp2
          go_roundw
          case rel=>exact⟨i+1,by omega,by go_num,HRE2.out,HGE2.out,HIE2.out⟩
          case measure=>simp[intOf];omega
      ·obtain rfl:i=wt+1:=by omega
       have HRN:=Kh (show QRow (fun j=>IsQ (stC Q n wt D X ch (F.getD j 0) (k+1))) wi g FL FL from HROW.out.congr (fun j _=>by rw[HNX.out]))
       go_wp2
       go_roundw
       case rel=>exact⟨k1,.inr (by have:=HK1.out;omega),by first|rfl|go_num,by rw[← HK1.out];exact HRN.out,HBI.out⟩
       case measure=>have:=HK1.out;simp[intOf];omega
    ·have hk1:k=K - 1:=by have:=HKK.out;omega
     have HRN:=Kh (show QRow (fun j=>IsQ (stC Q n wt D X ch (F.getD j 0) (K - 1))) wk g FL FL from by rw[← hk1];exact HROW.out)
     have hki:¬ ((k:Int)+1<(K:Int)):=by omega
     clear hk1
     go_wp2
     (first|go_ret2|go_ret)
     exact⟨⟨g,rfl,HWG.out,HRN.out⟩,HWK.out⟩
end Go.Proofs.YtijgdhijdfgpfaaGreatDoor
