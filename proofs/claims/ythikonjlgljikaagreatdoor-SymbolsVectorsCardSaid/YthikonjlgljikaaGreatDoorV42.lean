/- Contracts of halfplaneref09: Zeros, Combine, cleared. -/
import Derived.Test.YthikonjlgljikaaGreatDoorV26
import Derived.Test.YthikonjlgljikaaGreatDoorV33
import Derived.Test.YthikonjlgljikaaGreatDoorV41
import Derived.Test.YthikonjlgljikaaGreatDoorV29
set_option linter.unusedSimpArgs false
set_option maxRecDepth 100000
set_option maxHeartbeats 8000000
namespace Go.Proofs.YthikonjlgljikaaGreatDoor
open Go.RowKit Eli
theorem c_sNormalQ (s:Bool) (p:Option Addr) (n c:Nat) (t:Bool) (q:Option Addr) (m d:Nat) (x:Rat) (w:World) (h:Qs w s p n c t q m d x) (hx:hq x≤1000000000):
  Calls Tryz.prog 116 #[.agg #[.bool s,.slice p n c,.bool t,.slice q m d]] w fun e w'=>RetQ w' e x∧Below w.heap.size w w':=by
 have h1:=c_sNormal s p n c x.num t q m d x.den w h.1.raw h.2.raw (by have:=h.sizes;omega) (by have:=h.sizes;omega)
 rw[rat_self]at h1
 exact h1
theorem c_Zeros09 (n:Nat) (w:World) (hn:n≤1000000):
  Calls Tryz.prog 173 #[.int .i64 n] w fun e w'=>(∃ v,e=.returned v∧OwnQ (fun _=>IsQ 0) w' w.heap.size v n)∧Below w.heap.size w w':=by
 have HN:=Kh (OwnQ.nil (fun _=>IsQ 0) w w.heap.size)
 go_enter Tryz.func173,Tryz.ntmps173
 go_wp2
 go_loopw [3,4] (fun v i wr=>∃ k:Nat,k≤n∧i=.int .i64 k∧OwnQ (fun _=>IsQ 0) wr w.heap.size v k∧Below w.heap.size w wr) (fun _ i _=>n - (intOf i).toNat)
 case atStart=>exact⟨0,Nat.zero_le _,rfl,HN.out,Below.refl _ _⟩
 case round=>
  obtain⟨k,hk,rfl,ho,hb⟩:=hrel
  have HO:=Kh ho
  have HB:=Kh hb
  clear ho hb HN
  by_cases hlt:k<n
  ·go_wp2_with fail
   refine(c_sOf 0 wr (by omega) (by omega)).mono ?_
   rintro e w2 ⟨⟨s1,p1,n1,c1,t1,q1,m1,d1,rfl,hq⟩,hb2⟩
   obtain⟨xs,hK,hX⟩:=HO.out.keep (fun _=>IsQ.solid _) hb2
   have HK:=Kh hK
   have HX:=Kh hX
   have HQ:=Kh (show IsQ 0 w2 s1 p1 n1 c1 t1 q1 m1 d1 from hq)
   have HB1:=bt HB hb2
   clear hK hX hq hb2 HO HB
   go_wp2_with (at_builtin;refine wpl_app2 NotInt rfl (.tmp 10) (.tmp 12) _ 35 rfl Tryz.underlying24 ratInfo rfl (by decide) w.heap.size k u3 xs [.bool s1,.slice p1 n1 c1,.bool t1,.slice q1 m1 d1] rfl HK.out rfl rfl (one4 _ _ _ _ _ _ _ _) (by omega) (by omega) HB1.out.size (ni4 _ _ _ _ _ _ _ _) niz ?_;intro v' w' hown' hgr hat;have HO2:=Kh (OwnQ.push (W:=_) (fun _=>IsQ.solid _) HK.out HX.out HQ.out hown' hgr);have HB2:=Kh (own_below HB1.out HK.out.1 hgr (Nat.le_refl _) HB1.out.size);clear hown' hgr hat)
   go_roundw
   case rel=>exact⟨k+1,by omega,by go_num,HO2.out,HB2.out⟩
   case measure=>simp[intOf];omega
  ·obtain rfl:k=n:=by omega
   go_wp2
   go_ret
   exact⟨⟨_,rfl,HO.out⟩,HB.out⟩
theorem c_Combine (vx vy:Value) (n:Nat) (Fx Fy:Nat→Rat) (s:Bool) (p:Option Addr) (k0 c0:Nat) (t:Bool) (q:Option Addr) (m0 d0:Nat) (cc:Rat) (w:World) (hx:QL (fun j=>IsQ (Fx j)) w vx n) (hy:QL (fun j=>IsQ (Fy j)) w vy n) (hc:Qs w s p k0 c0 t q m0 d0 cc)
  (h0:0<n) (hn:n≤1000) (hcs:hq cc≤100000) (hxs:∀ j,hq (Fx j)≤100000) (hys:∀ j,hq (Fy j)≤100000):
  Calls Tryz.prog 172 #[vx,.agg #[.bool s,.slice p k0 c0,.bool t,.slice q m0 d0],vy] w fun e w'=>(∃ v',e=.returned v'∧OwnQ (fun j=>IsQ (Fx j+cc*Fy j)) w' w.heap.size v' n)∧Below w.heap.size w w':=by
 obtain⟨g1,o1,l1,rfl,hg1,r1⟩:=hx.resolve_left (fun h=>by omega)
 obtain⟨g2,o2,l2,rfl,hg2,r2⟩:=hy.resolve_left (fun h=>by omega)
 have HX:=Kh hxs
 have HY:=Kh hys
 have HC:=Kh hcs
 have HQC:=Kh hc
 have HR1:=Kh r1
 have HR2:=Kh r2
 have HG0:=Kh (And.intro hg1 hg2)
 clear hx hy hc hcs hxs hys r1 r2 hg1 hg2
 go_enter Tryz.func172,Tryz.ntmps172
 go_wp2_with fail
 obtain⟨w0,hw0,X0,hb0⟩:=bx1 w #[.bool s,.slice p k0 c0,.bool t,.slice q m0 d0] 35
 rw[hw0]
 obtain⟨bc,hbc⟩:∃ y,w.heap.size=y:=⟨_,rfl⟩
 have HBE:=Kh hbc
 rw[hbc]at X0 ⊢
 refine(c_sSignQ s p k0 c0 t q m0 d0 cc w0 (HQC.out.keep hb0) (by have:=HC.out;omega)).mono ?_
 rintro e w1 ⟨⟨sg,rfl,hsg⟩,hb1⟩
 have X1:=X0.below_ hb1 X0.lt
 have HB1:=Kh (hb0.trans (hb1.mono hb0.size))
 have HX1:=Kh X1
 obtain⟨B0,hB0⟩:∃ y,w1.heap.size=y:=⟨_,rfl⟩
 have HBC:=Kh (show bc<B0 from hB0▸X1.lt)
 have HB0:=Kh hB0
 have HB0L:=Kh (show w.heap.size≤B0 from hB0▸HB1.out.size)
 have HG:=Kh (show g1<B0∧g2<B0 from by have:=HG0.out;have:=HB0L.out;omega)
 have HR1:=Kh (fun j (hj:j<n)=>(HR1.out j hj).keep (IsQ.solid _) HB1.out)
 have HR2:=Kh (fun j (hj:j<n)=>(HR2.out j hj).keep (IsQ.solid _) HB1.out)
 have HQC1:=Kh (HQC.out.keep HB1.out)
 have HN:=Kh (OwnQ.nil (fun j=>IsQ (Fx j+cc*Fy j)) w1 B0)
 have HSG:=Kh hsg
 clear hw0 X0 hb0 hbc hb1 X1 hB0 hsg HG0
 obtain⟨nb,hnb⟩:∃ nb,(sg==0)=nb:=⟨_,rfl⟩
 have HNB:=Kh (show nb=true↔cc=0 by rw[← hnb,← HSG.out];simp)
 go_wp2_with fail
 go_loopw [7,9] (fun v ii wr=>∃ k:Nat,k≤n∧ii=.int .i64 k∧OwnQ (fun j=>IsQ (Fx j+cc*Fy j)) wr B0 v k∧Below B0 w1 wr∧I32 w1 wr) (fun _ ii _=>n - (intOf ii).toNat)
 case atStart=>exact⟨0,Nat.zero_le _,rfl,HN.out,Below.refl _ _,I32.refl _⟩
 case round=>
  obtain⟨k,hk,rfl,ho,hbw,h32⟩:=hrel
  obtain⟨we,rfl⟩:∃ we:World,we=wr:=⟨_,rfl⟩
  have HO:=Kh ho
  have HBW:=Kh hbw
  have H32:=Kh h32
  have HBS:=Kh (show B0≤we.heap.size from HB0.out▸hbw.size)
  clear HN
  by_cases hlt:k<n
  ·have hki:(k:Int)<(n:Int):=by omega
   obtain⟨s1,p1,n1,c1,t1,q1,m1,d1,a0,a1,a2,a3,hqx⟩:=QE.next (HR1.out k hlt) HG.out.1 h32 hbw
   obtain⟨s2,p2,n2,c2,t2,q2,m2,d2,b0,b1,b2,b3,hqy⟩:=QE.next (HR2.out k hlt) HG.out.2 h32 hbw
   have r0:=(hbw.cell (p:=⟨bc,0,none⟩) HBC.out).trans (HX1.out.at_ 0 rfl)
   have r1:=(hbw.cell (p:=⟨bc,1,none⟩) HBC.out).trans (HX1.out.at_ 1 rfl)
   have r2:=(hbw.cell (p:=⟨bc,2,none⟩) HBC.out).trans (HX1.out.at_ 2 rfl)
   have r3:=(hbw.cell (p:=⟨bc,3,none⟩) HBC.out).trans (HX1.out.at_ 3 rfl)
   have HQX:=Kh (show Qs we s1 p1 n1 c1 t1 q1 m1 d1 (Fx k)from hqx)
   have HQY:=Kh (show Qs we s2 p2 n2 c2 t2 q2 m2 d2 (Fy k)from hqy)
   have HQK:=Kh (show Qs we s p k0 c0 t q m0 d0 cc from HQC1.out.i32 h32)
   have HA:=Kh (show ∀ W,Below we.heap.size we W→(W.cell? ⟨g1,o1+k*4,none⟩=some (.bool s1)∧W.cell? ⟨g1,o1+k*4+1,none⟩=some (.slice p1 n1 c1)∧W.cell? ⟨g1,o1+k*4+2,none⟩=some (.bool t1)∧W.cell? ⟨g1,o1+k*4+3,none⟩=some (.slice q1 m1 d1))from fun W hb=>⟨cell_next hb a0,cell_next hb a1,cell_next hb a2,cell_next hb a3⟩)
   have HS1:=Kh (show ∀ W,Below B0 we W→(W.cell? ⟨g1,o1+k*4,none⟩=some (.bool s1)∧W.cell? ⟨g1,o1+k*4+1,none⟩=some (.slice p1 n1 c1)∧W.cell? ⟨g1,o1+k*4+2,none⟩=some (.bool t1)∧W.cell? ⟨g1,o1+k*4+3,none⟩=some (.slice q1 m1 d1)∧W.cell? ⟨g2,o2+k*4,none⟩=some (.bool s2)∧W.cell? ⟨g2,o2+k*4+1,none⟩=some (.slice p2 n2 c2)∧W.cell? ⟨g2,o2+k*4+2,none⟩=some (.bool t2)∧W.cell? ⟨g2,o2+k*4+3,none⟩=some (.slice q2 m2 d2)∧W.cell? ⟨bc,0,none⟩=some (.bool s)∧W.cell? ⟨bc,1,none⟩=some (.slice p k0 c0)∧W.cell? ⟨bc,2,none⟩=some (.bool t)∧W.cell? ⟨bc,3,none⟩=some (.slice q m0 d0))from fun W hb=>⟨(hb.cell (p:=⟨g1,o1+k*4,none⟩) HG.out.1).trans a0,(hb.cell (p:=⟨g1,o1+k*4+1,none⟩) HG.out.1).trans a1,(hb.cell (p:=⟨g1,o1+k*4+2,none⟩) HG.out.1).trans a2,(hb.cell (p:=⟨g1,o1+k*4+3,none⟩) HG.out.1).trans a3,(hb.cell (p:=⟨g2,o2+k*4,none⟩) HG.out.2).trans b0,(hb.cell (p:=⟨g2,o2+k*4+1,none⟩) HG.out.2).trans b1,(hb.cell (p:=⟨g2,o2+k*4+2,none⟩) HG.out.2).trans b2,(hb.cell (p:=⟨g2,o2+k*4+3,none⟩) HG.out.2).trans b3,(hb.cell (p:=⟨bc,0,none⟩) HBC.out).trans r0,(hb.cell (p:=⟨bc,1,none⟩) HBC.out).trans r1,(hb.cell (p:=⟨bc,2,none⟩) HBC.out).trans r2,(hb.cell (p:=⟨bc,3,none⟩) HBC.out).trans r3⟩)
   clear hbw h32 hqx hqy ho
   have HPLAIN:=Kh (show ∀ wz (hbz:Below we.heap.size we wz) (hz:Fx k+cc*Fy k=Fx k),Calls Tryz.prog 116 #[.agg #[.bool s1,.slice p1 n1 c1,.bool t1,.slice q1 m1 d1]] wz fun e w'=>RetQ w' e (Fx k+cc*Fy k)∧Below wz.heap.size wz w' from fun wz hbz hz=>by
    rw[hz]
    exact c_sNormalQ s1 p1 n1 c1 t1 q1 m1 d1 (Fx k) wz (HQX.out.keep hbz) (by have:=HX.out k;omega))
   cases nb with
   | true=>
    have hz:Fx k+cc*Fy k=Fx k:=by rw[HNB.out.1 rfl];grind
    go_wp2_with fail
    refine(HPLAIN.out we (Below.refl _ _) hz).mono ?_
    rintro e w5 ⟨⟨s5,p5,n5,c5,t5,q5,m5,d5,rfl,hq5⟩,hb5⟩
    obtain⟨xs,hK,hXX⟩:=HO.out.keep (fun _=>IsQ.solid _) hb5
    have HK:=Kh hK
    have HXX:=Kh hXX
    have HQ5:=Kh (show IsQ (Fx k+cc*Fy k) w5 s5 p5 n5 c5 t5 q5 m5 d5 from hq5)
    have HB5:=Kh hb5
    have HBX:=Kh (HBW.out.trans (hb5.mono HBS.out))
    have hB5:B0≤w5.heap.size:=Nat.le_trans HBS.out hb5.size
    clear hK hXX hq5 hb5 a0 a1 a2 a3 b0 b1 b2 b3 r0 r1 r2 r3 hz
    go_wp2_with (at_builtin;refine wpl_app2 NotInt rfl (.tmp 28) (.tmp 34) _ 35 rfl Tryz.underlying24 ratInfo rfl (by decide) B0 k u7 xs [.bool s5,.slice p5 n5 c5,.bool t5,.slice q5 m5 d5] rfl HK.out rfl rfl (one4 _ _ _ _ _ _ _ _) (by omega) (by omega) hB5 (ni4 _ _ _ _ _ _ _ _) niz ?_;intro v' w' hown' hgr hat;have HO2:=Kh (OwnQ.push (W:=_) (fun _=>IsQ.solid _) HK.out HXX.out HQ5.out hown' hgr);have HB2:=Kh (own_below HBX.out HK.out.1 hgr (Nat.le_refl _) hB5);have HI2:=Kh ((H32.out.trans (I32.below HB5.out)).trans (I32.grown (K:=NotInt) (fun x=>not_int32 x) HK.out.2 hgr));clear hown' hgr hat)
    go_roundw
    case rel=>exact⟨k+1,by omega,by go_num,HO2.out,HB2.out,HI2.out⟩
    case measure=>simp[intOf];omega
   | false=>
    have hc0':cc≠0:=fun e=>by have:=HNB.out.2 e;cases this
    have HCN:=Kh hc0'
    clear hc0'
    go_wp2_with fail
    refine(c_sSignQ s2 p2 n2 c2 t2 q2 m2 d2 (Fy k) we HQY.out (by have:=HY.out k;omega)).mono ?_
    rintro e w3 ⟨⟨sy,rfl,hsy⟩,hb3⟩
    have HSY:=Kh hsy
    have HB3:=Kh hb3
    have a0:=(HA.out w3 hb3).1
    have a1:=(HA.out w3 hb3).2.1
    have a2:=(HA.out w3 hb3).2.2.1
    have a3:=(HA.out w3 hb3).2.2.2
    clear hsy hb3 b0 b1 b2 b3 r0 r1 r2 r3
    by_cases hy0:sy=0
    ·have hyb:(sy==0)=true:=by rw[hy0];rfl
     have hz:Fx k+cc*Fy k=Fx k:=by rw[HSY.out.1 hy0];grind
     clear hy0
     go_wp2_with fail
     refine(HPLAIN.out w3 HB3.out hz).mono ?_
     rintro e w5 ⟨⟨s5,p5,n5,c5,t5,q5,m5,d5,rfl,hq5⟩,hb5⟩
     have HB5:=bt HB3 hb5
     obtain⟨xs,hK,hXX⟩:=HO.out.keep (fun _=>IsQ.solid _) HB5.out
     have HK:=Kh hK
     have HXX:=Kh hXX
     have HQ5:=Kh (show IsQ (Fx k+cc*Fy k) w5 s5 p5 n5 c5 t5 q5 m5 d5 from hq5)
     have HBX:=Kh (HBW.out.trans (HB5.out.mono HBS.out))
     have hB5:B0≤w5.heap.size:=Nat.le_trans HBS.out HB5.out.size
     clear hK hXX hq5 hb5 a0 a1 a2 a3 hz hyb
     go_wp2_with (at_builtin;refine wpl_app2 NotInt rfl (.tmp 28) (.tmp 34) _ 35 rfl Tryz.underlying24 ratInfo rfl (by decide) B0 k u7 xs [.bool s5,.slice p5 n5 c5,.bool t5,.slice q5 m5 d5] rfl HK.out rfl rfl (one4 _ _ _ _ _ _ _ _) (by omega) (by omega) hB5 (ni4 _ _ _ _ _ _ _ _) niz ?_;intro v' w' hown' hgr hat;have HO2:=Kh (OwnQ.push (W:=_) (fun _=>IsQ.solid _) HK.out HXX.out HQ5.out hown' hgr);have HB2:=Kh (own_below HBX.out HK.out.1 hgr (Nat.le_refl _) hB5);have HI2:=Kh ((H32.out.trans (I32.below HB5.out)).trans (I32.grown (K:=NotInt) (fun x=>not_int32 x) HK.out.2 hgr));clear hown' hgr hat)
     go_roundw
     case rel=>exact⟨k+1,by omega,by go_num,HO2.out,HB2.out,HI2.out⟩
     case measure=>simp[intOf];omega
    ·have hyb:(sy==0)=false:=beq_eq_false_iff_ne.2 hy0
     clear hy0
     obtain⟨xs,hKO,hXO⟩:=HO.out
     have HKO:=Kh (fun W (hb:Below we.heap.size we W)=>hKO.keep hb)
     have HXO:=Kh (fun W (hb:Below we.heap.size we W) j (hj:j<k)=>(hXO j hj).i32 (IsQ.solid _) (I32.below hb))
     have HMU:=Kh (fun W (hb:Below we.heap.size we W)=>c_sMulQ2 s p k0 c0 t q m0 d0 cc s2 p2 n2 c2 t2 q2 m2 d2 (Fy k) W (HQK.out.keep hb) (HQY.out.keep hb) (by have:=HC.out;omega) (by have:=HY.out k;omega))
     have HAD:=Kh (fun W s5 p5 n5 c5 t5 q5 m5 d5 (hb:Below we.heap.size we W) (hq5:Qs W s5 p5 n5 c5 t5 q5 m5 d5 (cc*Fy k))=>c_sAdd s1 p1 n1 c1 t1 q1 m1 d1 (Fx k) s5 p5 n5 c5 t5 q5 m5 d5 (cc*Fy k) W (HQX.out.keep hb) hq5 (by have:=HX.out k;omega) (by have h1:=hq_mul cc (Fy k);have h2:=HC.out;have h3:=HY.out k;omega))
     have hS0:=HS1.out _ (HB3.out.mono HBS.out).drew
     have HK1:=Kh (show ∀ wb,Below w3.drew.heap.size w3.drew wb→Below we.heap.size we wb from fun wb hb=>HB3.out.trans (((Below.refl _ w3).drew.trans hb).mono HB3.out.size))
     have HK2:=Kh (show ∀ wa wb,Below we.heap.size we wa→Below wa.heap.size wa wb→Below we.heap.size we wb from fun wa wb h1 h2=>h1.trans (h2.mono h1.size))
     have HDR:=Kh (show Below we.heap.size we w3.drew from HB3.out.drew)
     clear hKO hXO a0 a1 a2 a3
     have M1:True:=trivial
     go_upto_region 8 with(fail)
     go_region_held3 (fun W=>W.cell? ⟨g1,o1+k*4,none⟩=some (.bool s1)∧W.cell? ⟨g1,o1+k*4+1,none⟩=some (.slice p1 n1 c1)∧W.cell? ⟨g1,o1+k*4+2,none⟩=some (.bool t1)∧W.cell? ⟨g1,o1+k*4+3,none⟩=some (.slice q1 m1 d1)∧W.cell? ⟨g2,o2+k*4,none⟩=some (.bool s2)∧W.cell? ⟨g2,o2+k*4+1,none⟩=some (.slice p2 n2 c2)∧W.cell? ⟨g2,o2+k*4+2,none⟩=some (.bool t2)∧W.cell? ⟨g2,o2+k*4+3,none⟩=some (.slice q2 m2 d2)∧W.cell? ⟨bc,0,none⟩=some (.bool s)∧W.cell? ⟨bc,1,none⟩=some (.slice p k0 c0)∧W.cell? ⟨bc,2,none⟩=some (.bool t)∧W.cell? ⟨bc,3,none⟩=some (.slice q m0 d0))
      (first|with_reducible exact hS0|exact HS1.out _ HB9.out|exact HS1.out _ (HBA.out.mono HBS.out)|exact HS1.out _ ((HBA.out.mono HBS.out).alloc (Nat.le_trans HBS.out HBA.out.size) _) |(exfalso;assumption))
      (first
       |(refine step_app2 NotInt rfl (.tmp 36) (.tmp 48) _ 35 rfl Tryz.underlying24 ratInfo rfl (by decide) B0 k u7 xs [.bool s6,.slice p6 n6 c6,.bool t6,.slice q6 m6 d6] rfl (HKO.out _ HBA.out) rfl rfl (one4 _ _ _ _ _ _ _ _) (by omega) (by omega) (Nat.le_trans HBS.out HBA.out.size) (ni4 _ _ _ _ _ _ _ _) niz ?_;intro v9 w9 hown9 hgr9 hat9;have HO9:=Kh (OwnQ.push (W:=_) (fun _=>IsQ.solid _) (HKO.out _ HBA.out) (HXO.out _ HBA.out) hq6' hown9 hgr9);have H329:=Kh ((H32.out.trans (I32.below HBA.out)).trans (I32.grown (K:=NotInt) (fun x=>not_int32 x) (HKO.out _ HBA.out).2 hgr9));have HB9:=Kh (own_below (HBA.out.mono HBS.out) (HKO.out _ HBA.out).1 hgr9 (Nat.le_refl _) (Nat.le_trans HBS.out HBA.out.size));clear hown9 hgr9 hat9)
       |(go_at_call 52;(with_reducible refine(HMU.out _ HDR.out).mono ?_);rintro e w7 ⟨⟨s5,p5,n5,c5,t5,q5,m5,d5,rfl,hq5⟩,hb7⟩;have HBA:=Kh (HK1.out _ hb7))
       |(go_at_call 67;(with_reducible refine(HAD.out _ _ _ _ _ _ _ _ _ HBA.out hq5).mono ?_);rintro e w8 ⟨⟨s6,p6,n6,c6,t6,q6,m6,d6,rfl,hq6⟩,hb8⟩;have hq6':IsQ (Fx k+cc*Fy k) w8 s6 p6 n6 c6 t6 q6 m6 d6:=hq6;have HBA:=Kh (HK2.out _ _ HBA.out hb8)))
     all_goals go_wp2
     all_goals go_roundw
     all_goals first
      | exact⟨k+1,by omega,by go_num,HO9.out,HBW.out.trans HB9.out,H329.out⟩
      |(simp[intOf];omega)
  ·obtain rfl:n=k:=by omega
   clear hbw h32 ho
   go_wp2
   go_ret
   exact⟨⟨_,rfl,HO.out.base HB0L.out⟩,HB1.out.trans (HBW.out.mono HB0L.out)⟩
theorem c_cleared (vr vp:Value) (n c:Nat) (Fr Fp:Nat→Rat) (w:World) (hr:RowV Fr n w vr) (hp:RowV Fp n w vp) (hc:c<n) (hn:n≤1000) (hrs:∀ j,hq (Fr j)≤10000) (hps:∀ j,hq (Fp j)≤10000):
  Calls Tryz.prog 175 #[vr,vp,.int .i64 c] w fun e w'=>(∃ v',e=.returned v'∧RowV (fun q=>Fr q+-(Fr c)*Fp q) n w' v')∧Below w.heap.size w w':=by
 have HVR:=Kh hr
 have HVP:=Kh hp
 obtain⟨g1,o1,l1,rfl,hg1,r1⟩:=hr.2.resolve_left (fun h=>by omega)
 obtain⟨⟨pp,cp,rfl⟩,_⟩:=hp
 obtain⟨s1,p1,n1,c1,t1,q1,m1,d1,a0,a1,a2,a3,hqx⟩:=r1 c hc
 have hci:(c:Int)<(n:Int):=by omega
 have HQX:=Kh (show Qs w s1 p1 n1 c1 t1 q1 m1 d1 (Fr c)from hqx)
 have HX:=Kh hrs
 have HP:=Kh hps
 clear hr r1 hqx hrs hps hg1
 go_enter Tryz.func175,Tryz.ntmps175
 go_wp2_with fail
 refine(c_sSignQ s1 p1 n1 c1 t1 q1 m1 d1 (Fr c) w HQX.out (by have:=HX.out c;omega)).mono ?_
 rintro e w1 ⟨⟨sg,rfl,hsg⟩,hb1⟩
 have HB1:=Kh hb1
 have HSG:=Kh hsg
 have a0:=cell_next hb1 a0
 have a1:=cell_next hb1 a1
 have a2:=cell_next hb1 a2
 have a3:=cell_next hb1 a3
 clear hb1 hsg
 by_cases h0:sg=0
 ·have hb:(sg==0)=true:=by rw[h0];rfl
  have HZ:=Kh (HSG.out.1 h0)
  clear h0
  go_wp2
  go_ret
  exact⟨⟨_,rfl,(HVR.out.keep HB1.out).congr (fun q _=>by rw[HZ.out];grind)⟩,HB1.out⟩
 ·have hb:(sg==0)=false:=beq_eq_false_iff_ne.2 h0
  clear h0
  go_wp2_with fail
  refine(c_sNegQ s1 p1 n1 c1 t1 q1 m1 d1 (Fr c) w1 (HQX.out.keep HB1.out) (by have:=HX.out c;omega)).mono ?_
  rintro e w2 ⟨⟨s2,p2,n2,c2,t2,q2,m2,d2,rfl,hq2⟩,hb2⟩
  have HB2:=bt HB1 hb2
  have HQ2:=Kh hq2
  clear hb2 hq2 a0 a1 a2 a3
  go_wp2_with fail
  refine(c_Combine _ _ n Fr Fp s2 p2 n2 c2 t2 q2 m2 d2 (-(Fr c)) w2 (HVR.out.keep HB2.out).2 (HVP.out.keep HB2.out).2 HQ2.out (by omega) hn (by rw[hq_neg];have:=HX.out c;omega) (fun j=>by have:=HX.out j;omega) (fun j=>by have:=HP.out j;omega)).mono ?_
  rintro e w3 ⟨⟨v3,rfl,ho⟩,hb3⟩
  have HB3:=bt HB2 hb3
  have HO:=Kh ho
  clear hb3 ho
  go_wp2
  go_ret
  exact⟨⟨_,rfl,ql_value HO.out.ql,HO.out.ql⟩,HB3.out⟩
end Go.Proofs.YthikonjlgljikaaGreatDoor
namespace Go.Proofs.YthikonjlgljikaaGreatDoor
namespace Eli
open Sie
def RSp (rows:Nat→Nat→Int) (k:Nat) (u:Nat→Rat):Prop:=∃ z:Nat→Rat,∀ q,u q=sumQ (fun i=>z i*(rows i q:Rat)) k
theorem RSp.nil (rows:Nat→Nat→Int) (k:Nat):RSp rows k (fun _=>0):=⟨fun _=>0,fun q=>(sumQ_zero (fun i _=>by grind)).symm⟩
theorem RSp.combine {rows:Nat→Nat→Int} {k:Nat} {u v:Nat→Rat} (hu:RSp rows k u) (c:Rat) (hv:RSp rows k v):RSp rows k (fun q=>u q+c*v q):=by
 obtain⟨y,ey⟩:=hu
 obtain⟨z,ez⟩:=hv
 refine⟨fun j=>y j+c*z j,fun q=>?_⟩
 dsimp only
 rw[ey,ez,← sumQ_mul,← sumQ_add]
 exact sumQ_congr fun i _=>by grind
theorem RSp.congr {rows:Nat→Nat→Int} {k:Nat} {u v:Nat→Rat} (hu:RSp rows k u) (h:∀ q,v q=u q):RSp rows k v:=by
 obtain⟨y,ey⟩:=hu
 exact⟨y,fun q=>by rw[h,ey]⟩
theorem RSp.mono {rows:Nat→Nat→Int} {k k':Nat} {u:Nat→Rat} (hu:RSp rows k u) (h:k≤k'):RSp rows k' u:=by
 obtain⟨y,ey⟩:=hu
 refine⟨fun j=>if j<k then y j else 0,fun q=>?_⟩
 rw[ey,sumQ_tail h (fun i h1 _=>by simp only[if_neg (Nat.not_lt.2 h1)];grind)]
 exact sumQ_congr fun i hi=>by simp only[if_pos hi]
theorem RSp.row {rows:Nat→Nat→Int} {k i:Nat} (hi:i<k):RSp rows k (fun q=>(rows i q:Rat)):=by
 refine⟨fun j=>if j=i then 1 else 0,fun q=>?_⟩
 rw[sumQ_single hi (fun j _ hne=>by simp only[if_neg hne];grind)]
 simp
theorem RSp.sum {rows:Nat→Nat→Int} {k:Nat} {L:Nat→Nat→Rat} {z:Nat→Rat}:∀ t,(∀ j,j<t→z j=0∨RSp rows k (L j))→RSp rows k (fun q=>sumQ (fun j=>z j*L j q) t)
 | 0,_=>(RSp.nil rows k).congr (fun _=>rfl)
 | t+1,h=>by
  have h1:=RSp.sum t (fun j hj=>h j (by omega)) (rows:=rows) (k:=k) (L:=L) (z:=z)
  rcases h t (Nat.lt_succ_self _)with h2|h2
  ·exact h1.congr (fun q=>by rw[sumQ,h2];grind)
  ·exact(h1.combine (z t) h2).congr (fun q=>by rw[sumQ])
theorem RSp.of_sp {rows:Nat→Nat→Int} {k t:Nat} {ld:Nat→Bool} {L:Nat→Nat→Rat} {u:Nat→Rat} (hu:Sp ld L t u) (h:∀ j,j<t→ld j=true→RSp rows k (L j)):RSp rows k u:=by
 obtain⟨z,hz,ez⟩:=hu
 refine(RSp.sum (L:=L) (z:=z) t (fun j hj=>?_)).congr ez
 cases hl:ld j with
 | false=>exact .inl (hz j hj hl)
 | true=>exact .inr (h j hj hl)
theorem Sp.sum {ld:Nat→Bool} {L:Nat→Nat→Rat} {t:Nat} {R:Nat→Nat→Rat} {z:Nat→Rat}:∀ k,(∀ j,j<k→z j=0∨Sp ld L t (R j))→Sp ld L t (fun q=>sumQ (fun j=>z j*R j q) k)
 | 0,_=>(Sp.nil ld L t).congr (fun _=>rfl)
 | k+1,h=>by
  have h1:=Sp.sum k (fun j hj=>h j (by omega)) (ld:=ld) (L:=L) (t:=t) (R:=R) (z:=z)
  rcases h k (Nat.lt_succ_self _)with h2|h2
  ·exact h1.congr (fun q=>by rw[sumQ,h2];grind)
  ·exact(h1.combine (z k) h2).congr (fun q=>by rw[sumQ])
theorem RSp.sp {rows:Nat→Nat→Int} {k t:Nat} {ld:Nat→Bool} {L:Nat→Nat→Rat} {u:Nat→Rat} (hu:RSp rows k u) (h:∀ i,i<k→Sp ld L t (fun q=>(rows i q:Rat))):Sp ld L t u:=by
 obtain⟨z,ez⟩:=hu
 exact(Sp.sum (R:=fun i q=>(rows i q:Rat)) (z:=z) k (fun j hj=>.inr (h j hj))).congr ez
theorem Sp.trim {ld:Nat→Bool} {L:Nat→Nat→Rat} {t n:Nat} {u:Nat→Rat} (hu:Sp ld L t u) (h:∀ j,n≤j→ld j=false):Sp ld L n u:=by
 by_cases ht:t≤n
 ·exact hu.mono ht
 ·obtain⟨z,hz,ez⟩:=hu
  refine⟨z,fun j hj hl=>hz j (by omega) hl,fun q=>?_⟩
  rw[ez]
  exact sumQ_tail (by omega) (fun i h1 h2=>by rw[hz i h2 (h i h1)];grind)
theorem Good.high {n B:Nat} {leads:Nat→List (Nat×Rat)} (h:Good n B leads) (j:Nat) (hj:n≤j):ldOf leads j=false:=ldOf_false ((h.ord j).top hj)
theorem put_facts {leads:Nat→List (Nat×Rat)} {x:Nat×Rat} {r:List (Nat×Rat)} (hno:leads x.1=[]):
  ldOf (Eli.put leads (x :: r)) x.1=true∧(∀ q,rowOf (Eli.put leads (x :: r)) x.1 q=1 / x.2*val (x :: r) q) ∧
  (∀ j,j≠x.1→ldOf (Eli.put leads (x :: r)) j=ldOf leads j∧rowOf (Eli.put leads (x :: r)) j=rowOf leads j) ∧
  ∀ t u,Sp (ldOf leads) (rowOf leads) t u→Sp (ldOf (Eli.put leads (x :: r))) (rowOf (Eli.put leads (x :: r))) t u:=by
 obtain⟨L',hL'⟩:∃ L',Eli.put leads (x :: r)=L':=⟨_,rfl⟩
 have e1:L' x.1=scl (x :: r):=by rw[← hL'];exact if_pos rfl
 have e2:∀ j,j≠x.1→L' j=leads j:=fun j hj=>by rw[← hL'];exact if_neg hj
 have e3:scl (x :: r)≠[]:=by rw[scl,List.map_cons];exact List.cons_ne_nil _ _
 have hld:ldOf L' x.1=true:=ldOf_true (by rw[e1];exact e3)
 have hld2:∀ j,j≠x.1→ldOf L' j=ldOf leads j:=fun j hj=>by rw[ldOf,e2 j hj];rfl
 have hro:∀ j,j≠x.1→rowOf L' j=rowOf leads j:=fun j hj=>by funext q;rw[rowOf,rowOf,hld2 j hj,e2 j hj]
 have hrx:∀ q,rowOf L' x.1 q=1 / x.2*val (x :: r) q:=fun q=>by rw[rowOf,hld,if_pos rfl,e1,val_scl]
 rw[hL']
 refine⟨hld,hrx,fun j hj=>⟨hld2 j hj,hro j hj⟩,fun t u hu=>hu.turn fun j _ hl=>?_⟩
 have hne:j≠x.1:=fun e=>by rw[e,ldOf_false hno]at hl;cases hl
 exact⟨by rw[hld2 j hne];exact hl,hro j hne⟩
theorem put_new {n B:Nat} {leads:Nat→List (Nat×Rat)} {v:Nat→Int} {t:Nat} {x:Nat×Rat} {r:List (Nat×Rat)} (h:Good n B leads) (hr:RowOk n leads v t (x :: r)) (hs:red leads (x :: r)=x :: r):leads x.1=[]:=by
 refine Classical.byContradiction fun hl=>?_
 obtain⟨⟨ho,_⟩,_⟩:=hr.step h hl
 rw[hs]at ho
 have:=ho.1
 omega
theorem elim_span {n B:Nat} {rows:Nat→Nat→Int} (hB:1≤B) (hb:∀ i q,(rows i q).natAbs≤B) (h0:∀ i q,n≤q→rows i q=0) (k:Nat):
  (∀ i,i<k→Sp (ldOf (elim n rows k)) (rowOf (elim n rows k)) n (fun q=>(rows i q:Rat)))∧∀ j,ldOf (elim n rows k) j=true→RSp rows k (rowOf (elim n rows k) j):=by
 induction k with
 | zero=>exact⟨fun i hi=>absurd hi (Nat.not_lt_zero _),fun j hj=>by cases hj⟩
 | succ k ih=>
  obtain⟨ih1,ih2⟩:=ih
  have hg:=Good.elim hB hb h0 k
  have hr:=RowOk.first n (Eli.elim n rows k) (rows k) (h0 k)
  obtain⟨t,h1,_⟩:=hr.steps hg n
  have hs:=hr.end_still hg
  rw[show elim n rows (k+1)=Eli.put (elim n rows k) (redN (elim n rows k) n (spr (rows k) n))from rfl]
  generalize redN (elim n rows k) n (spr (rows k) n)=r at h1 hs ⊢
  generalize elim n rows k=leads at ih1 ih2 hg h1 hs ⊢
  obtain⟨ho,u,hu,he⟩:=h1
  have hun:=hu.trim hg.high
  have hur:RSp rows k u:=RSp.of_sp hu (fun j _ hj=>ih2 j hj)
  cases r with
  | nil=>
   refine⟨fun i hi=>?_,fun j hj=>(ih2 j hj).mono (Nat.le_succ _)⟩
   by_cases e:i=k
   ·subst e
    exact hun.congr (fun q=>by rw[he,val_nil];grind)
   ·exact ih1 i (by omega)
  | cons x r=>
   have hno:=put_new hg ⟨ho,u,hu,he⟩ hs
   obtain⟨f1,f2,f3,f4⟩:=put_facts (r:=r) hno
   have hx:=ho.2.2.1
   have hxn:=ho.2.1
   refine⟨fun i hi=>?_,fun j hj=>?_⟩
   ·by_cases e:i=k
    ·subst e
     refine((f4 _ _ hun).combine x.2 (Sp.lead hxn f1)).congr (fun q=>?_)
     rw[he,f2]
     grind
    ·exact f4 _ _ (ih1 i (by omega))
   ·by_cases e:j=x.1
    ·subst e
     have h2:RSp rows (k+1) (fun q=>(rows k q:Rat)+(-1)*u q):=(RSp.row (Nat.lt_succ_self _)).combine (-1) (hur.mono (Nat.le_succ _))
     refine((RSp.nil rows (k+1)).combine (1 / x.2) h2).congr (fun q=>?_)
     rw[f2,he]
     grind
    ·obtain⟨g1,g2⟩:=f3 j e
     rw[g1]at hj
     rw[g2]
     exact(ih2 j hj).mono (Nat.le_succ _)
theorem Inv.unique {B:Nat} {ld:Nat→Bool} {L:Nat→Nat→Rat} {R:Nat→Nat→Int} (h:Inv B ld L R) {n:Nat} {x y u v:Nat→Rat} (hu:Sp ld L n u) (hv:Sp ld L n v)
  (he:∀ q,q<n→sumQ (fun f=>(if ld f then 0 else x f)*L f q) n+u q=sumQ (fun f=>(if ld f then 0 else y f)*L f q) n+v q):∀ f,f<n→ld f=false→x f=y f:=by
 obtain⟨a,ha,ea⟩:=hu
 obtain⟨b,hb,eb⟩:=hv
 have h1:=h.tri (t:=n) (z:=fun j=>((if ld j then 0 else x j)+a j)+(-1)*((if ld j then 0 else y j)+b j)) (fun q hq=>by
  have e:=he q hq
  rw[ea,eb]at e
  have e2:sumQ (fun j=>(((if ld j then 0 else x j)+a j)+(-1)*((if ld j then 0 else y j)+b j))*L j q) n
    =(sumQ (fun f=>(if ld f then 0 else x f)*L f q) n+sumQ (fun j=>a j*L j q) n)+(-1)*(sumQ (fun f=>(if ld f then 0 else y f)*L f q) n+sumQ (fun j=>b j*L j q) n):=by
   rw[← sumQ_add,← sumQ_add,← sumQ_mul,← sumQ_add]
   exact sumQ_congr fun i _=>by grind
  rw[e2,e]
  grind)
 intro f hf hl
 have h2:=h1 f hf
 rw[ha f hf hl,hb f hf hl,hl]at h2
 simp only[Bool.false_eq_true,if_false]at h2
 grind
end Eli
namespace Eli
open Sie
structure GjAt (n B:Nat) (rows:Nat→Nat→Int) (m c:Nat) (ld:Nat→Bool) (L:Nat→Nat→Rat) (R:Nat→Nat→Int) (O:Nat→Nat→Rat) (A:(Nat→Rat)→Prop):Prop where
 inv:Inv B ld L R
 lt:∀ p,ld p=true→p<c
 le:c≤n
 sp:∀ p,ld p=true→RSp rows m (L p)
 out:∀ p,ld p=true→Sp ld L c (O p)∧O p p=1∧∀ p',ld p'=true→p'≠p→O p p'=0
 rest:∀ a,A a→(∀ q,q<c→a q=0)∧∃ i,i<m∧∃ u,Sp ld L c u∧∀ q,(rows i q:Rat)=a q+u q
 all:∀ i,i<m→∃ a u,(A a∨∀ q,a q=0)∧Sp ld L c u∧∀ q,(rows i q:Rat)=a q+u q
def unitQ (j q:Nat):Rat:=if q=j then 1 else 0
def unitZ (j q:Nat):Int:=if q=j then 1 else 0
theorem GjAt.start {n B m:Nat} {rows:Nat→Nat→Int} (hB:1≤B):GjAt n B rows m 0 (fun _=>false) unitQ unitZ (fun _ _=>0) (fun a=>∃ i,i<m∧∀ q,a q=(rows i q:Rat)) where
 inv:=by
  constructor
  ·intro j q hq;rw[unitQ,if_neg (by omega)]
  ·intro j;rw[unitQ,if_pos rfl]
  ·intro j _ q;rfl
  ·intro j _ q;rfl
  ·intro p hp;cases hp
  ·intro p q;rw[unitZ];split
   ·exact hB
   ·exact Nat.zero_le _
 lt:=fun p hp=>by cases hp
 le:=Nat.zero_le _
 sp:=fun p hp=>by cases hp
 out:=fun p hp=>by cases hp
 rest:=fun a ⟨i,hi,ha⟩=>⟨fun q hq=>absurd hq (Nat.not_lt_zero _),i,hi,fun _=>0,Sp.nil _ _ _,fun q=>by rw[ha];grind⟩
 all:=fun i hi=>⟨fun q=>(rows i q:Rat),fun _=>0,.inl ⟨i,hi,fun _=>rfl⟩,Sp.nil _ _ _,fun q=>by grind⟩
section
variable {n B m c:Nat} {rows:Nat→Nat→Int} {ld:Nat→Bool} {L:Nat→Nat→Rat} {R:Nat→Nat→Int} {O:Nat→Nat→Rat} {A:(Nat→Rat)→Prop}
theorem GjAt.skip (h:GjAt n B rows m c ld L R O A) (hc:c<n) (h0:∀ a,A a→a c=0):GjAt n B rows m (c+1) ld L R O A where
 inv:=h.inv
 lt:=fun p hp=>Nat.lt_succ_of_lt (h.lt p hp)
 le:=hc
 sp:=h.sp
 out:=fun p hp=>⟨(h.out p hp).1.mono (Nat.le_succ _),(h.out p hp).2⟩
 rest:=fun a ha=>by
  obtain⟨h1,i,hi,u,hu,he⟩:=h.rest a ha
  refine⟨fun q hq=>?_,i,hi,u,hu.mono (Nat.le_succ _),he⟩
  by_cases e:q=c
  ·rw[e];exact h0 a ha
  ·exact h1 q (by omega)
 all:=fun i hi=>by
  obtain⟨a,u,h1,h2,h3⟩:=h.all i hi
  exact⟨a,u,h1,h2.mono (Nat.le_succ _),h3⟩
theorem GjAt.same_rest (h:GjAt n B rows m c ld L R O A) {A':(Nat→Rat)→Prop} (h1:∀ a,A' a→∃ b,A b∧∀ q,a q=b q) (h2:∀ a,A a→∃ b,A' b∧∀ q,b q=a q):GjAt n B rows m c ld L R O A' where
 inv:=h.inv
 lt:=h.lt
 le:=h.le
 sp:=h.sp
 out:=h.out
 rest:=fun a ha=>by
  obtain⟨b,hb,e⟩:=h1 a ha
  obtain⟨h3,i,hi,u,hu,he⟩:=h.rest b hb
  exact⟨fun q hq=>by rw[e];exact h3 q hq,i,hi,u,hu,fun q=>by rw[e];exact he q⟩
 all:=fun i hi=>by
  obtain⟨a,u,h3,h4,h5⟩:=h.all i hi
  rcases h3 with h3|h3
  ·obtain⟨b,hb,e⟩:=h2 a h3
   exact⟨b,u,.inl hb,h4,fun q=>by rw[e];exact h5 q⟩
  ·exact⟨a,u,.inr h3,h4,h5⟩
theorem GjAt.rest_sp (h:GjAt n B rows m c ld L R O A) {u:Nat→Rat} (hu:Sp ld L c u):RSp rows m u:=RSp.of_sp hu (fun j _ hj=>h.sp j hj)
theorem GjAt.pivot (h:GjAt n B rows m c ld L R O A) (hb:∀ i q,(rows i q).natAbs≤B) (hc:c<n) {r:Nat→Rat} (hr:A r) (h0:r c≠0) {A':(Nat→Rat)→Prop} {O':Nat→Nat→Rat} {ld':Nat→Bool}
  (hl':∀ j,ld' j=(ld j||decide (j=c)))
  (h1:∀ a',A' a'→∃ a,A a∧∀ q,a' q=a q+-(a c)*(1 / r c*r q)) (h2:∀ a,A a→(∀ q,a q=r q)∨∃ a',A' a'∧∀ q,a' q=a q+-(a c)*(1 / r c*r q))
  (hO:∀ q,O' c q=1 / r c*r q) (hO':∀ p,ld p=true→∀ q,O' p q=O p q+-(O p c)*(1 / r c*r q)):
  ∃ L' R',GjAt n B rows m (c+1) ld' L' R' O' A':=by
 obtain⟨hz,i0,hi0,u0,hu0,he0⟩:=h.rest r hr
 have hcl:ld c=false:=by
  cases e:ld c with
  | false=>rfl
  | true=>exact absurd (h.lt c e) (Nat.lt_irrefl _)
 have hlc:ld' c=true:=by rw[hl',decide_eq_true rfl,Bool.or_true]
 have hln:∀ j,j≠c→ld' j=ld j:=fun j hj=>by rw[hl',decide_eq_false hj,Bool.or_false]
 have hlk:∀ j,ld j=true→ld' j=true:=fun j hj=>by rw[hl',hj,Bool.true_or]
 obtain⟨pv,hpv⟩:∃ pv:Nat→Rat,∀ q,pv q=1 / r c*r q:=⟨fun q=>1 / r c*r q,fun _=>rfl⟩
 have hp0:∀ q,q<c→pv q=0:=fun q hq=>by rw[hpv,hz q hq];grind
 have hp1:pv c=1:=by rw[hpv];grind
 have hpr:∀ q,r q=r c*pv q:=fun q=>by rw[hpv];grind
 obtain⟨L',hL'⟩:∃ L':Nat→Nat→Rat,L'=fun j=>if j=c then pv else L j:=⟨_,rfl⟩
 have hLc:L' c=pv:=by rw[hL'];exact if_pos rfl
 have hLn:∀ j,j≠c→L' j=L j:=fun j hj=>by rw[hL'];exact if_neg hj
 have hturn:∀ t u,Sp ld L t u→Sp ld' L' t u:=fun t u hu=>hu.turn fun j _ hj=>by
  have hne:j≠c:=fun e=>by rw[e,hcl]at hj;cases hj
  exact⟨hlk j hj,hLn j hne⟩
 have hup:∀ u,Sp ld L c u→Sp ld' L' (c+1) u:=fun u hu=>(hturn _ _ hu).mono (Nat.le_succ _)
 have hlead:Sp ld' L' (c+1) pv:=hLc▸Sp.lead (Nat.lt_succ_self _) hlc
 have hpsp:RSp rows m pv:=by
  have h3:RSp rows m (fun q=>(rows i0 q:Rat)+(-1)*u0 q):=(RSp.row hi0).combine (-1) (h.rest_sp hu0)
  exact((RSp.nil rows m).combine (1 / r c) h3).congr (fun q=>by rw[hpv,he0];grind)
 refine⟨L',fun j=>if j=c then rows i0 else R j,?_⟩
 constructor
 ·constructor
  ·intro j q hq
   by_cases e:j=c
   ·rw[e,hLc];exact hp0 q (by omega)
   ·rw[hLn j e];exact h.inv.low j q hq
  ·intro j
   by_cases e:j=c
   ·rw[e,hLc];exact hp1
   ·rw[hLn j e];exact h.inv.one j
  ·intro j hj q
   have e:j≠c:=fun e=>by rw[e,hlc]at hj;cases hj
   rw[hLn j e]
   exact h.inv.free j (by rw[← hln j e];exact hj) q
  ·intro j hj q
   have e:j≠c:=fun e=>by rw[e,hlc]at hj;cases hj
   simp only[if_neg e]
   exact h.inv.rfree j (by rw[← hln j e];exact hj) q
  ·intro p hp
   by_cases e:p=c
   ·subst e
    refine⟨r p,h0,u0,hturn _ _ hu0,fun q=>?_⟩
    rw[if_pos rfl,he0,hLc,← hpr]
   ·obtain⟨s,h3,u,hu,he⟩:=h.inv.got p (by rw[← hln p e];exact hp)
    refine⟨s,h3,u,hturn _ _ hu,fun q=>?_⟩
    rw[if_neg e,hLn p e]
    exact he q
  ·intro p q
   show((if p=c then rows i0 else R p) q).natAbs≤B
   split
   ·exact hb i0 q
   ·exact h.inv.bound p q
 ·intro p hp
  by_cases e:p=c
  ·omega
  ·exact Nat.lt_succ_of_lt (h.lt p (by rw[← hln p e];exact hp))
 ·exact hc
 ·intro p hp
  by_cases e:p=c
  ·rw[e,hLc];exact hpsp
  ·rw[hLn p e];exact h.sp p (by rw[← hln p e];exact hp)
 ·intro p hp
  by_cases e:p=c
  ·rw[e]
   refine⟨hlead.congr (fun q=>by rw[hO,hpv]),by rw[hO,← hpv];exact hp1,fun p' hp' hne=>?_⟩
   rw[hO,← hpv]
   exact hp0 p' (h.lt p' (by rw[← hln p' hne];exact hp'))
  ·have hp2:ld p=true:=by rw[← hln p e];exact hp
   obtain⟨h3,h4,h5⟩:=h.out p hp2
   have hlt:=h.lt p hp2
   refine⟨((hup _ h3).combine (-(O p c)) hlead).congr (fun q=>by rw[hO' p hp2,hpv]),?_,fun p' hp' hne=>?_⟩
   ·rw[hO' p hp2,← hpv,hp0 p hlt,h4];grind
   ·rw[hO' p hp2,← hpv]
    by_cases e2:p'=c
    ·rw[e2,hp1];grind
    ·have hp3:ld p'=true:=by rw[← hln p' e2];exact hp'
     rw[hp0 p' (h.lt p' hp3),h5 p' hp3 hne];grind
 ·intro a' ha'
  obtain⟨a,ha,ea⟩:=h1 a' ha'
  obtain⟨h3,i,hi,u,hu,he⟩:=h.rest a ha
  refine⟨fun q hq=>?_,i,hi,_,(hup _ hu).combine (a c) hlead,fun q=>?_⟩
  ·rw[ea,← hpv]
   by_cases e:q=c
   ·rw[e,hp1];grind
   ·rw[hp0 q (by omega),h3 q (by omega)];grind
  ·rw[he,ea,hpv];grind
 ·intro i hi
  obtain⟨a,u,h3,h4,h5⟩:=h.all i hi
  rcases h3 with h3|h3
  ·rcases h2 a h3 with h6 |⟨a',h6,h7⟩
   ·refine⟨fun _=>0,_,.inr (fun _=>rfl),(hup _ h4).combine (r c) hlead,fun q=>?_⟩
    rw[h5,h6,hpr];grind
   ·refine⟨a',_,.inl h6,(hup _ h4).combine (a c) hlead,fun q=>?_⟩
    rw[h5,h7,hpv];grind
  ·exact⟨a,u,.inr h3,hup _ h4,h5⟩
theorem top_pos (n B:Nat):1≤top n B:=by
 rw[top]
 refine nd_pos.2 ?_
 have h:0<cap n B:=Nat.pow_pos (Nat.succ_pos _)
 omega
theorem GjAt.rest_size (h:GjAt n B rows m c ld L R O A) (hb:∀ i q,(rows i q).natAbs≤B) {a:Nat→Rat} (ha:A a) (q:Nat):hq (a q)≤top n B:=by
 obtain⟨h3,i,hi,u,hu,he⟩:=h.rest a ha
 obtain⟨k,N,hk,hkc,hN,hE⟩:=h.inv.height (rows i) (hb i) a c u hu he h3
 rw[rat_of_mul hk (hE q)]
 exact hq_over hk (nd_top1 h.le (hN _)) (nd_top2 h.le hkc)
theorem GjAt.pivot_size (h:GjAt n B rows m c ld L R O A) (hb:∀ i q,(rows i q).natAbs≤B) {a:Nat→Rat} (ha:A a) (h0:a c≠0) (q:Nat):hq (1 / a c*a q)≤top n B:=by
 obtain⟨h3,i,hi,u,hu,he⟩:=h.rest a ha
 obtain⟨k,N,hk,hkc,hN,hE⟩:=h.inv.height (rows i) (hb i) a c u hu he h3
 have hkr:(k:Rat)≠0:=fun e=>hk (by exact_mod_cast e)
 have h1:=hE c
 have h2:=hE q
 have h4:N c≠0:=fun e=>by
  rw[e]at h1
  rcases Rat.mul_eq_zero.1 (h1.trans rfl)with h5|h5
  ·exact hkr h5
  ·exact h0 h5
 have h6:(N c:Rat)*(1 / a c*a q)=(N q:Rat):=by rw[← h1,← h2];grind
 rw[rat_of_mul h4 h6]
 exact hq_over h4 (nd_top1 h.le (hN _)) (nd_top1 h.le (hN _))
theorem RSp.high {u:Nat→Rat} (hu:RSp rows m u) (h0:∀ i q,n≤q→rows i q=0) (q:Nat) (hq:n≤q):u q=0:=by
 obtain⟨z,hz⟩:=hu
 rw[hz]
 exact sumQ_zero (fun i _=>by rw[h0 i q hq];have:((0:Int):Rat)=0:=rfl;rw[this];grind)
theorem GjAt.unit (h:GjAt n B rows m c ld L R O A) (h0:∀ i q,n≤q→rows i q=0) {p:Nat} (hp:ld p=true) (q:Nat):unitQ p q=sumQ (fun f=>(if ld f then 0 else -(O p f))*L f q) n+O p q:=by
 obtain⟨h1,h2,h3⟩:=h.out p hp
 have hpn:p<n:=Nat.lt_of_lt_of_le (h.lt p hp) h.le
 rw[unitQ]
 by_cases hqn:q<n
 ·have e1:sumQ (fun f=>(if ld f then 0 else -(O p f))*L f q) n=(if ld q then 0 else -(O p q)):=by
   rw[sumQ_single hqn (fun i _ hne=>?_)]
   ·cases hl:ld q with
    | true=>simp
    | false=>rw[h.inv.one];simp
   ·cases hl:ld i with
    | true=>simp
    | false=>rw[h.inv.free i hl,show(if q=i then(1:Rat)else 0)=0 from if_neg (fun e=>hne e.symm)];exact Rat.mul_zero _
  rw[e1]
  cases hl:ld q with
  | true=>
   by_cases e:q=p
   ·rw[if_pos e,e,h2];simp;grind
   ·rw[if_neg e,h3 q hl e];simp;grind
  | false=>
   have e:q≠p:=fun e=>by rw[e,hp]at hl;cases hl
   rw[if_neg e];simp;grind
 ·rw[if_neg (by omega),RSp.high (h.rest_sp h1) h0 q (by omega),sumQ_zero (fun i hi=>?_)]
  ·grind
  ·cases hl:ld i with
   | true=>simp
   | false=>rw[h.inv.free i hl,show(if q=i then(1:Rat)else 0)=0 from if_neg (by omega)];exact Rat.mul_zero _
theorem GjAt.out_size (h:GjAt n B rows m c ld L R O A) (hB:1≤B) (h0:∀ i q,n≤q→rows i q=0) {p:Nat} (hp:ld p=true) (q:Nat):hq (O p q)≤top n B:=by
 obtain⟨h1,h2,h3⟩:=h.out p hp
 by_cases hqn:q<n
 ·cases hl:ld q with
  | true=>
   by_cases e:q=p
   ·rw[e,h2,hq_one];exact top_pos n B
   ·rw[h3 q hl e,hq_zero];exact top_pos n B
  | false=>
   obtain⟨k,N,hk,hkc,hN,hE⟩:=h.inv.coords (unitZ p) (fun q=>by rw[unitZ];split <;> simp <;> omega) n (fun f=>-(O p f)) (O p) (h1.mono h.le) (fun q=>by
    rw[← h.unit h0 hp q,unitZ,unitQ];split <;> rfl)
   have h4:=hE q hqn hl
   rw[← hq_neg,rat_of_mul hk h4]
   exact hq_over hk (nd_top2 (Nat.le_refl _) (hN q hqn)) (nd_top2 (Nat.le_refl _) hkc)
 ·rw[RSp.high (h.rest_sp h1) h0 q (by omega),hq_zero];exact top_pos n B
theorem Inv.lead_of {B n j:Nat} {ld:Nat→Bool} {L:Nat→Nat→Rat} {R:Nat→Nat→Int} (h:Inv B ld L R) {u:Nat→Rat} (hu:Sp ld L n u) (h0:∀ q,q<j→u q=0) (h1:u j≠0) (hj:j<n):ld j=true:=by
 obtain⟨z,hz,ez⟩:=hu
 have hcut:∀ q,q≤j→sumQ (fun i=>z i*L i q) n=sumQ (fun i=>z i*L i q) (j+1):=fun q hq=>sumQ_tail (by omega) (fun i h2 h3=>by rw[h.low i q (by omega)];grind)
 have h2:=h.tri (t:=j) (z:=z) (fun q hq=>by
  have h3:=h0 q hq
  rw[ez,hcut q (by omega),sumQ,h.low j q hq]at h3
  grind)
 cases hl:ld j with
 | true=>rfl
 | false=>
  refine absurd ?_ h1
  rw[ez,hcut j (Nat.le_refl _),sumQ,hz j hj hl,sumQ_zero (fun i hi=>by rw[h2 i hi];grind)]
  grind
theorem GjAt.done (h:GjAt n B rows m c ld L R O A) (h0:∀ i q,n≤q→rows i q=0) (he:c=n∨∀ a,¬ A a) (i:Nat) (hi:i<m):Sp ld L n (fun q=>(rows i q:Rat)):=by
 obtain⟨a,u,h1,h2,h3⟩:=h.all i hi
 refine(h2.mono h.le).congr (fun q=>?_)
 have ha:a q=0:=by
  rcases h1 with h1|h1
  ·rcases he with he|he
   ·by_cases hq:q<n
    ·exact(h.rest a h1).1 q (by omega)
    ·have h4:=h3 q
     rw[h0 i q (by omega),RSp.high (h.rest_sp h2) h0 q (by omega)]at h4
     have:((0:Int):Rat)=0:=rfl
     rw[this]at h4
     grind
   ·exact absurd h1 (he a)
  ·exact h1 q
 rw[h3,ha];grind
theorem GjAt.same_ld (h:GjAt n B rows m c ld L R O A) (hB:1≤B) (hb:∀ i q,(rows i q).natAbs≤B) (h0:∀ i q,n≤q→rows i q=0) (he:c=n∨∀ a,¬ A a) (j:Nat) (hj:j<n):ld j=ldOf (elim n rows m) j:=by
 obtain⟨s1,s2⟩:=elim_span hB hb h0 m
 have hg:=Good.elim hB hb h0 m
 obtain⟨R2,hi⟩:=hg.inv
 have k1:ldOf (elim n rows m) j=true→ld j=true:=fun hl=>by
  have h1:=(s2 j hl).sp (h.done h0 he)
  exact h.inv.lead_of h1 (fun q hq=>hi.low j q hq) (by rw[hi.one];grind) hj
 have k2:ld j=true→ldOf (elim n rows m) j=true:=fun hl=>by
  have h1:=(h.sp j hl).sp s1
  exact hi.lead_of h1 (fun q hq=>h.inv.low j q hq) (by rw[h.inv.one];grind) hj
 cases e1:ld j with
 | true=>exact(k2 e1).symm
 | false=>
  cases e2:ldOf (elim n rows m) j with
  | true=>rw[k1 e2]at e1;cases e1
  | false=>rfl
theorem GjAt.same_crd (h:GjAt n B rows m c ld L R O A) (hB:1≤B) (hb:∀ i q,(rows i q).natAbs≤B) (h0:∀ i q,n≤q→rows i q=0) (he:c=n∨∀ a,¬ A a) {p f:Nat} (hp:ld p=true) (hf:f<n) (hl:ld f=false):
  crd (elim n rows m) n n p f=-(O p f):=by
 obtain⟨s1,s2⟩:=elim_span hB hb h0 m
 have hg:=Good.elim hB hb h0 m
 obtain⟨R2,hi⟩:=hg.inv
 have hld:=h.same_ld hB hb h0 he
 have hpn:p<n:=Nat.lt_of_lt_of_le (h.lt p hp) h.le
 obtain⟨u,hu,eu⟩:=said hg n p (by omega) hpn n (by omega) (Nat.le_refl _)
 have hv:=(h.rest_sp (h.out p hp).1).sp s1
 refine hi.unique (x:=crd (elim n rows m) n n p) (y:=fun f=>-(O p f)) hu hv (fun q hq=>?_) f hf (by rw[← hld f hf];exact hl)
 rw[← eu]
 have h1:=h.unit h0 hp q
 rw[unitQ]at h1
 rw[h1]
 congr 1
 refine sumQ_congr fun i hi2=>?_
 rw[hld i hi2]
 cases e:ldOf (elim n rows m) i with
 | true=>simp
 | false=>rw[h.inv.free i (by rw[hld i hi2];exact e),hi.free i e]
end
end Eli
end Go.Proofs.YthikonjlgljikaaGreatDoor
