/- Contracts of bigint's DivMod and Exact, where the divisor is not 0. -/
import Derived.Test.YtenlbhlllgppmaaGreatDoorK14
import Derived.Test.YtenlbhlllgppmaaGreatDoorK09
set_option maxRecDepth 100000
set_option maxHeartbeats 8000000
namespace Go.Proofs.YtenlbhlllgppmaaGreatDoor
open Go.RowKit
theorem div_uniq {a b q r:Int} (hb:0<b) (h:r+b*q=a) (h0:0≤r) (h1:r<b):a / b=q∧a % b=r:=(Int.ediv_emod_unique hb).2 ⟨h,h0,h1⟩
theorem sg_div_pos {s:Bool} {u v:Nat} (hv:0<v):(sg s u) / (v:Int)=(if s=true∧0<u % v then sg s (u / v+1)else sg s (u / v))∧(sg s u) % (v:Int)=(if s=true∧0<u % v then((v - u % v:Nat):Int)else((u % v:Nat):Int)):=by
 have h1:=Nat.div_add_mod u v
 have h2:=Nat.mod_lt u hv
 have h3:((v:Int)*((u / v:Nat):Int))+((u % v:Nat):Int)=(u:Int):=by
  rw[← Int.natCast_mul,← Int.natCast_add,h1]
 generalize u / v=Q at *
 generalize u % v=R at *
 cases s with
 | false=>
  rw[if_neg (by simp),if_neg (by simp)]
  exact div_uniq (by omega) (by rw[sg_false,sg_false];omega) (by omega) (by omega)
 | true=>
  by_cases hR:0<R
  ·rw[if_pos ⟨rfl,hR⟩,if_pos ⟨rfl,hR⟩]
   refine div_uniq (by omega) ?_ (by omega) (by omega)
   show((v - R:Nat):Int)+(v:Int)*(-((Q+1:Nat):Int))=-(u:Int)
   rw[Int.mul_neg,Int.natCast_add,Int.mul_add]
   omega
  ·rw[if_neg (by simp[hR]),if_neg (by simp[hR])]
   refine div_uniq (by omega) ?_ (by omega) (by omega)
   show(R:Int)+(v:Int)*(-(Q:Int))=-(u:Int)
   rw[Int.mul_neg]
   omega
theorem sg_div {s t:Bool} {u v:Nat} (hv:0<v):(sg s u) / (sg t v)=(if s=true∧0<u % v then sg (s != t) (u / v+1)else sg (s != t) (u / v))∧(sg s u) % (sg t v)=(if s=true∧0<u % v then((v - u % v:Nat):Int)else((u % v:Nat):Int)):=by
 obtain⟨h1,h2⟩:=sg_div_pos (s:=s) (u:=u) hv
 cases t with
 | false=>
  rw[sg_false,h1,h2]
  cases s <;> exact⟨rfl,rfl⟩
 | true=>
  rw[show sg true v=-(v:Int)from rfl,Int.ediv_neg,Int.emod_neg,h1,h2]
  refine⟨?_,rfl⟩
  split <;> cases s <;> simp[sg]
def RetZZ (w':World) (e:Ending) (q r:Int):Prop:=∃ s p n c t p' m d,e=.returned (.tuple #[.agg #[.bool s,.slice p n c],.agg #[.bool t,.slice p' m d],.int .i64 0])∧Zs w' s p n c q∧Zs w' t p' m d r
theorem put4 {w:World} {R S:Nat} {s t:Bool} {p q:Option Addr} {n c m d:Nat} {x y:Int} (hR:Var2 w R) (hS:Var2 w S) (hne:R≠S) (h1:Zs w s p n c x) (h2:Zs w t q m d y) {w':World}
  (hw:(((w.setCell ⟨R,0,none⟩ (.bool s)).setCell ⟨R,1,none⟩ (.slice p n c)).setCell ⟨S,0,none⟩ (.bool t)).setCell ⟨S,1,none⟩ (.slice q m d)=w'):
  w'.cell? ⟨R,0,none⟩=some (.bool s)∧w'.cell? ⟨R,1,none⟩=some (.slice p n c)∧w'.cell? ⟨S,0,none⟩=some (.bool t)∧w'.cell? ⟨S,1,none⟩=some (.slice q m d)∧Zs w' s p n c x∧Zs w' t q m d y:=by
 subst hw
 have hs1:=hS.sts.put ⟨R,0,none⟩ (.bool s) (NotInt.bool _)
 have hs2:=hs1.put ⟨R,1,none⟩ (.slice p n c) (NotInt.slice _ _ _)
 have far:∀ (w:World) (i j:Nat) (v:Value),(w.setCell ⟨S,i,none⟩ v).cell? ⟨R,j,none⟩=w.cell? ⟨R,j,none⟩:=fun w i j v=>World.cell?_setCell_far w ⟨S,i,none⟩ ⟨R,j,none⟩ v (Ne.symm hne)
 have ne01:∀ R:Nat,(⟨R,0,none⟩:Addr)≠⟨R,1,none⟩:=fun R h=>by simp at h
 refine⟨?_,?_,?_,?_,?_,?_⟩
 ·rw[far,far,World.cell?_setCell_other _ _ _ _ (Ne.symm (ne01 R)),World.cell?_setCell_same' _ _ _ hR.some0]
 ·rw[far,far,World.cell?_setCell_same' _ _ _ (cell_some_set hR.some1)]
 ·rw[World.cell?_setCell_other _ _ _ _ (Ne.symm (ne01 S)),World.cell?_setCell_same' _ _ _ (cell_some_set (cell_some_set hS.some0))]
 ·rw[World.cell?_setCell_same' _ _ _ (cell_some_set (cell_some_set (cell_some_set hS.some1)))]
 ·exact(h1.put2 hR.sts 0 1 _ _ (NotInt.bool _)).put2 hs2 0 1 _ _ (NotInt.bool _)
 ·exact(h2.put2 hR.sts 0 1 _ _ (NotInt.bool _)).put2 hs2 0 1 _ _ (NotInt.bool _)
theorem c_DivMod (s:Bool) (p:Option Addr) (n c:Nat) (x:Int) (t:Bool) (q:Option Addr) (m d:Nat) (y:Int) (w:World) (h:Zr w s p n c x) (h':Zr w t q m d y) (hn:n≤17592186044400) (hm:m≤17592186044400) (hy:y≠0):
  Calls Tryz.prog 170 #[.agg #[.bool s,.slice p n c],.agg #[.bool t,.slice q m d]] w fun e w'=>RetZZ w' e (x / y) (x % y)∧Below w.heap.size w w':=by
 obtain⟨k,hk,hk2,HL⟩:=h.letters (by omega)
 obtain⟨l,hl,hl2,KL⟩:=h'.letters (by omega)
 obtain⟨u,hu⟩:∃ u,x.natAbs=u:=⟨_,rfl⟩
 obtain⟨v,hv⟩:∃ v,y.natAbs=v:=⟨_,rfl⟩
 rw[hu]at HL hk2
 rw[hv]at KL hl2
 have hv0:0<v:=by omega
 obtain⟨hq,hr⟩:=sg_div (s:=s) (t:=t) (u:=u) hv0
 rw[HL.out.1,KL.out.1]at hq hr
 have hD:=fun w1 (hb:Below w.heap.size w w1)=>c_divide p c u q d v w1 (HL.out.2.1.keep hb) (KL.out.2.1.keep hb) (by omega) (by omega) (by omega)
 rw[hk2,hl2]at hD
 have hl0:0<l:=by rw[← hl2];exact nd_pos.2 (by omega)
 have hlb:((l:Int)==0)=false:=beq_eq_false_iff_ne.2 (by omega)
 obtain⟨Q,hQ⟩:∃ Q,u / v=Q:=⟨_,rfl⟩
 obtain⟨R,hR⟩:∃ R,u % v=R:=⟨_,rfl⟩
 have hRv:R<v:=by rw[← hR];exact Nat.mod_lt _ hv0
 have hQu:Q≤u:=by rw[← hQ];exact Nat.div_le_self _ _
 have hQk:nd Q≤k:=by rw[← hk2];exact nd_mono hQu
 have hRl:nd R≤l:=by rw[← hl2];exact nd_mono (Nat.le_of_lt hRv)
 rw[hQ,hR]at hD hq
 rw[hR]at hr
 have HD:=Kh hD
 have HT1:=Kh HL.out.2.2
 have HT2:=Kh KL.out.2.2
 have HN2:=Kh KL.out.2.1
 have HL2:=Kh hl2
 have HQ:=Kh hq
 have HR:=Kh hr
 have HRV:=Kh hRv
 have HRL:=Kh hRl
 have HQK:=Kh hQk
 have HR0:=Kh (nd_pos (v:=R))
 clear hD hq hr hRv hRl hQu hQ hR hQk hl2 hk2 HL KL h h' hv hu hy
 go_enter Tryz.func170,Tryz.ntmps170
 go_wp2_with fail
 obtain⟨w0,hw0,X0,X1,X2,X3,hb0⟩:=bx4 w #[.bool s,.slice p n c] 84 #[.bool t,.slice q m d] 84 #[.bool false,.slice none 0 0] 84 #[.bool false,.slice none 0 0] 84
 rw[hw0]
 clear hw0
 have HV2:=Kh (Var2.of X2 (NotInt.bool _) (NotInt.slice _ _ _))
 have HV3:=Kh (Var2.of X3 (NotInt.bool _) (NotInt.slice _ _ _))
 have HA0:=Kh X0
 have HA1:=Kh X1
 have HB0:=Kh hb0
 have A1:=X0.at_ 1 rfl
 clear X0 X1 X2 X3 hb0
 refine(HT2.out _ HB0.out).mono ?_
 rintro e w1 ⟨rfl,rfl⟩
 clear HT2
 go_wp2_with fail
 refine(HT1.out _ HB0.out).mono ?_
 rintro e w1 ⟨rfl,rfl⟩
 clear HT1
 go_wp2_with fail
 refine(HD.out _ HB0.out).mono ?_
 rintro e w1 ⟨⟨p1,c1,p2,c2,rfl,hnq,hnr⟩,hb1⟩
 obtain⟨k1,hk1⟩:∃ k1,nd Q=k1:=⟨_,rfl⟩
 obtain⟨k2,hk2⟩:∃ k2,nd R=k2:=⟨_,rfl⟩
 rw[hk1,hk2]
 rw[hk1]at HQK
 rw[hk2]at HRL HR0
 have HB1:=bt HB0 hb1
 replace HV2:=Kh (HV2.out.next hb1)
 replace HV3:=Kh (HV3.out.next hb1)
 replace HA0:=Kh (bk HA0 hb1)
 replace HA1:=Kh (bk HA1 hb1)
 replace HN2:=Kh (HN2.out.keep HB1.out)
 have A0:=HA0.out.at_ 0 rfl
 have A2:=HA1.out.at_ 0 rfl
 have HNQ:=Kh hnq
 have HNR:=Kh hnr
 have HK1:=Kh hk1
 have HK2:=Kh hk2
 have hq1:k1≤k:=HQK.out
 have hr1:k2≤l:=HRL.out
 clear HD HB0 A1 hnq hnr hb1 hk1 hk2
 by_cases hcase:s=true∧0<k2
 ·obtain⟨rfl,hk20⟩:=hcase
  have hqv:=Kh (show x / y=sg (!t) (Q+1)by have h1:=HQ.out;rw[if_pos ⟨rfl,nd_pos.2 (by have:=HR0.out;omega) |> nd_pos.1 |> Nat.pos_of_ne_zero⟩]at h1;cases t <;> exact h1)
  have hrv:=Kh (show x % y=((v - R:Nat):Int)by have h1:=HR.out;rw[if_pos ⟨rfl,Nat.pos_of_ne_zero (HR0.out.1 hk20)⟩]at h1;exact h1)
  have hone:=(Row.alloc w1 #[.int .u32 1] 1 (fun _=>1) rfl (fun i hi=>by obtain rfl:i=0:=by omega
                                                                         rfl) (fun _ _=>(by decide:(1:Nat)<4294967296))).dg 1 (Nat.le_refl _)
  have hba:Below w1.heap.size w1 (w1.alloc (.cells #[.int .u32 1] 200)):=(Below.refl _ _).alloc (Nat.le_refl _) _
  have HP:=c_plus p1 c1 (nd Q) (dg Q) (some ⟨w1.heap.size,0,none⟩) 1 1 (fun _=>1) _ (HNQ.out.keep hba) hone (by have:=HK1.out;omega) (by omega)
  rw[vf_nd,show vf (fun _=>1) 1=1 from rfl,HK1.out]at HP
  have HLS:=fun w5 (hb:Below w1.heap.size w1 w5)=>c_less q d (nd v) (dg v) p2 c2 (nd R) (dg R) w5 (HN2.out.keep hb) (HNR.out.keep hb) (by have:=HL2.out;omega) (nd_mono (Nat.le_of_lt HRV.out)) (by rw[vf_nd,vf_nd];exact Nat.le_of_lt HRV.out)
  simp only[vf_nd]at HLS
  rw[HL2.out,HK2.out]at HLS
  replace HP:=Kh HP
  replace HLS:=Kh HLS
  have HBA:=Kh hba
  clear hone hba HQ HR
  go_wp2_with fail
  refine HP.out.mono ?_
  rintro e w3 ⟨⟨p3,c3,r3,rfl,hd3,hv3⟩,hb3⟩
  have HB3:=bt HBA hb3
  have HD3:=Kh (And.intro hd3 hv3)
  clear hd3 hv3 hb3 HP HBA
  go_wp2_with fail
  refine(HLS.out _ HB3.out).mono ?_
  rintro e w4 ⟨⟨p4,c4,rr,rfl,hd4,hv4⟩,hb4⟩
  obtain⟨rq,hrq⟩:∃ rq,r3=rq:=⟨_,rfl⟩
  have HDQ:=Kh (show Dg w4 p3 c3 (max k1 1+1) rq∧vf rq (max k1 1+1)=Q+1 by rw[← hrq];exact⟨HD3.out.1.keep hb4,HD3.out.2⟩)
  have HDR:=Kh (And.intro hd4 hv4)
  have hb14:=HB3.out.trans (hb4.mono HB3.out.size)
  replace HV2:=Kh (HV2.out.next hb14)
  replace HV3:=Kh (HV3.out.next hb14)
  have A0':=(hb14.cell (p:=⟨w.heap.size,0,none⟩) HA0.out.lt).trans A0
  have A2':=(hb14.cell (p:=⟨w.heap.size+1,0,none⟩) HA1.out.lt).trans A2
  replace HB1:=bt HB1 hb14
  clear A0 A2 hb14 hb4 hd4 hv4 hrq HD3 HB3 HLS HNQ HNR HN2 HK1 HK2 HA0 HA1
  have HS1:=c_signed (!t) p3 c3 (max k1 1+1) rq w4 HDQ.out.1 (by omega)
  rw[HDQ.out.2,← hqv.out]at HS1
  replace HS1:=Kh HS1
  have HS2:=fun w5 (hb:Below w4.heap.size w4 w5)=>c_signed false p4 c4 l rr w5 (HDR.out.1.keep hb) (by omega)
  simp only[HDR.out.2,sg_false,← hrv.out]at HS2
  replace HS2:=Kh HS2
  clear HDQ HDR hqv hrv
  go_wp2_with fail
  refine HS1.out.mono ?_
  rintro e w5 ⟨⟨s5,p5,n5,c5,rfl,hz5⟩,hb5⟩
  have HB5:=Kh hb5
  have HZ5:=Kh hz5
  clear hz5 hb5 HS1
  go_wp2_with fail
  refine(HS2.out _ HB5.out).mono ?_
  rintro e w6 ⟨⟨s6,p6,n6,c6,rfl,hz6⟩,hb6⟩
  have HZ6:=Kh (HZ5.out.keep hb6)
  have V2:=(HV2.out.next HB5.out).next hb6
  have V3:=(HV3.out.next HB5.out).next hb6
  have HB6:=Kh ((HB1.out.trans (HB5.out.mono HB1.out.size)).trans (hb6.mono (Nat.le_trans HB1.out.size HB5.out.size)))
  obtain⟨⟨u0,hu0⟩,⟨u1,hu1⟩⟩:=V2.cells
  obtain⟨⟨u2,hu2⟩,⟨u3,hu3⟩⟩:=V3.cells
  have f0:=V2.free 0
  have f1:=V2.free 1
  have f2:=V3.free 0
  have f3:=V3.free 1
  obtain⟨w7,hw7⟩:∃ w7,(((w6.setCell ⟨w.heap.size+1+1,0,none⟩ (.bool s5)).setCell ⟨w.heap.size+1+1,1,none⟩ (.slice p5 n5 c5)).setCell ⟨w.heap.size+1+1+1,0,none⟩ (.bool s6)).setCell ⟨w.heap.size+1+1+1,1,none⟩ (.slice p6 n6 c6)=w7:=⟨_,rfl⟩
  obtain⟨E0,E1,E2,E3,z5,z6⟩:=put4 V2 V3 (by omega) HZ6.out hz6 hw7
  have hb7:Below w.heap.size w w7:=by
   rw[← hw7]
   exact(((HB6.out.setCell (by show w.heap.size≤w.heap.size+1+1;omega) _).setCell (by show w.heap.size≤w.heap.size+1+1;omega) _).setCell (by show w.heap.size≤w.heap.size+1+1+1;omega) _).setCell (by show w.heap.size≤w.heap.size+1+1+1;omega) _
  have HZ7:=Kh (And.intro z5 z6)
  have HB7:=Kh hb7
  have HW7:=Kh hw7
  have HE:=Kh (And.intro E0 (And.intro E1 (And.intro E2 E3)))
  clear z5 z6 hb7 hw7 E0 E1 E2 E3 V2 V3 hz6 hb6 HZ5 HZ6 HB5 HB6 HS2 HB1 HV2 HV3
  go_wp2
  rw[HW7.out]
  obtain⟨E0,E1,E2,E3⟩:=HE.out
  try simp only[Exit.inBlock,Exit.then]
  refine bodyPost_ret (by simp[results,Tryz.results170,go_sem,E0,E1,E2,E3];try rfl) rfl ?_
  exact⟨⟨s5,p5,n5,c5,s6,p6,n6,c6,rfl,HZ7.out.1,HZ7.out.2⟩,HB7.out⟩
 ·have hqv0:x / y=sg (s != t) Q:=by have h1:=HQ.out;rw[if_neg (fun h=>hcase ⟨h.1,by rw[← HK2.out];exact nd_pos.2 (by omega)⟩)]at h1;exact h1
  have hrv:=Kh (show x % y=((R:Nat):Int)by have h1:=HR.out;rw[if_neg (fun h=>hcase ⟨h.1,by rw[← HK2.out];exact nd_pos.2 (by omega)⟩)]at h1;exact h1)
  obtain⟨rq,hrq⟩:∃ rq,dg Q=rq:=⟨_,rfl⟩
  obtain⟨rr,hrr⟩:∃ rr,dg R=rr:=⟨_,rfl⟩
  have HDQ:=Kh (show Dg w1 p1 c1 k1 rq∧vf rq k1=Q by rw[← hrq,← HK1.out];exact⟨HNQ.out,vf_nd Q⟩)
  have HDR:=Kh (show Dg w1 p2 c2 k2 rr∧vf rr k2=R by rw[← hrr,← HK2.out];exact⟨HNR.out,vf_nd R⟩)
  clear hrq hrr HQ HR HNQ HNR HN2 HK1 HK2 HA0 HA1
  cases s with
  | false=>
   have hqv:=Kh (show x / y=sg t Q by rw[hqv0];cases t <;> rfl)
   clear hqv0 hcase
   have HS1:=c_signed (t) p1 c1 k1 rq w1 HDQ.out.1 (by omega)
   rw[HDQ.out.2,← hqv.out]at HS1
   replace HS1:=Kh HS1
   have HS2:=fun w5 (hb:Below w1.heap.size w1 w5)=>c_signed false p2 c2 k2 rr w5 (HDR.out.1.keep hb) (by omega)
   simp only[HDR.out.2,sg_false,← hrv.out]at HS2
   replace HS2:=Kh HS2
   clear HDQ HDR hqv hrv
   go_wp2_with fail
   refine HS1.out.mono ?_
   rintro e w5 ⟨⟨s5,p5,n5,c5,rfl,hz5⟩,hb5⟩
   have HB5:=Kh hb5
   have HZ5:=Kh hz5
   clear hz5 hb5 HS1
   go_wp2_with fail
   refine(HS2.out _ HB5.out).mono ?_
   rintro e w6 ⟨⟨s6,p6,n6,c6,rfl,hz6⟩,hb6⟩
   have HZ6:=Kh (HZ5.out.keep hb6)
   have V2:=(HV2.out.next HB5.out).next hb6
   have V3:=(HV3.out.next HB5.out).next hb6
   have HB6:=Kh ((HB1.out.trans (HB5.out.mono HB1.out.size)).trans (hb6.mono (Nat.le_trans HB1.out.size HB5.out.size)))
   obtain⟨⟨u0,hu0⟩,⟨u1,hu1⟩⟩:=V2.cells
   obtain⟨⟨u2,hu2⟩,⟨u3,hu3⟩⟩:=V3.cells
   have f0:=V2.free 0
   have f1:=V2.free 1
   have f2:=V3.free 0
   have f3:=V3.free 1
   obtain⟨w7,hw7⟩:∃ w7,(((w6.setCell ⟨w.heap.size+1+1,0,none⟩ (.bool s5)).setCell ⟨w.heap.size+1+1,1,none⟩ (.slice p5 n5 c5)).setCell ⟨w.heap.size+1+1+1,0,none⟩ (.bool s6)).setCell ⟨w.heap.size+1+1+1,1,none⟩ (.slice p6 n6 c6)=w7:=⟨_,rfl⟩
   obtain⟨E0,E1,E2,E3,z5,z6⟩:=put4 V2 V3 (by omega) HZ6.out hz6 hw7
   have hb7:Below w.heap.size w w7:=by
    rw[← hw7]
    exact(((HB6.out.setCell (by show w.heap.size≤w.heap.size+1+1;omega) _).setCell (by show w.heap.size≤w.heap.size+1+1;omega) _).setCell (by show w.heap.size≤w.heap.size+1+1+1;omega) _).setCell (by show w.heap.size≤w.heap.size+1+1+1;omega) _
   have HZ7:=Kh (And.intro z5 z6)
   have HB7:=Kh hb7
   have HW7:=Kh hw7
   have HE:=Kh (And.intro E0 (And.intro E1 (And.intro E2 E3)))
   clear z5 z6 hb7 hw7 E0 E1 E2 E3 V2 V3 hz6 hb6 HZ5 HZ6 HB5 HB6 HS2 HB1 HV2 HV3
   go_wp2
   rw[HW7.out]
   obtain⟨E0,E1,E2,E3⟩:=HE.out
   try simp only[Exit.inBlock,Exit.then]
   refine bodyPost_ret (by simp[results,Tryz.results170,go_sem,E0,E1,E2,E3];try rfl) rfl ?_
   exact⟨⟨s5,p5,n5,c5,s6,p6,n6,c6,rfl,HZ7.out.1,HZ7.out.2⟩,HB7.out⟩
  | true=>
   have hqv:=Kh (show x / y=sg (!t) Q by rw[hqv0];cases t <;> rfl)
   obtain rfl:k2=0:=by
    rcases Nat.eq_zero_or_pos k2 with h1|h1
    ·exact h1
    ·exact absurd ⟨rfl,h1⟩ hcase
   clear hqv0 hcase
   have HS1:=c_signed (!t) p1 c1 k1 rq w1 HDQ.out.1 (by omega)
   rw[HDQ.out.2,← hqv.out]at HS1
   replace HS1:=Kh HS1
   have HS2:=fun w5 (hb:Below w1.heap.size w1 w5)=>c_signed false p2 c2 0 rr w5 (HDR.out.1.keep hb) (by omega)
   simp only[HDR.out.2,sg_false,← hrv.out]at HS2
   replace HS2:=Kh HS2
   clear HDQ HDR hqv hrv
   go_wp2_with fail
   refine HS1.out.mono ?_
   rintro e w5 ⟨⟨s5,p5,n5,c5,rfl,hz5⟩,hb5⟩
   have HB5:=Kh hb5
   have HZ5:=Kh hz5
   clear hz5 hb5 HS1
   go_wp2_with fail
   refine(HS2.out _ HB5.out).mono ?_
   rintro e w6 ⟨⟨s6,p6,n6,c6,rfl,hz6⟩,hb6⟩
   have HZ6:=Kh (HZ5.out.keep hb6)
   have V2:=(HV2.out.next HB5.out).next hb6
   have V3:=(HV3.out.next HB5.out).next hb6
   have HB6:=Kh ((HB1.out.trans (HB5.out.mono HB1.out.size)).trans (hb6.mono (Nat.le_trans HB1.out.size HB5.out.size)))
   obtain⟨⟨u0,hu0⟩,⟨u1,hu1⟩⟩:=V2.cells
   obtain⟨⟨u2,hu2⟩,⟨u3,hu3⟩⟩:=V3.cells
   have f0:=V2.free 0
   have f1:=V2.free 1
   have f2:=V3.free 0
   have f3:=V3.free 1
   obtain⟨w7,hw7⟩:∃ w7,(((w6.setCell ⟨w.heap.size+1+1,0,none⟩ (.bool s5)).setCell ⟨w.heap.size+1+1,1,none⟩ (.slice p5 n5 c5)).setCell ⟨w.heap.size+1+1+1,0,none⟩ (.bool s6)).setCell ⟨w.heap.size+1+1+1,1,none⟩ (.slice p6 n6 c6)=w7:=⟨_,rfl⟩
   obtain⟨E0,E1,E2,E3,z5,z6⟩:=put4 V2 V3 (by omega) HZ6.out hz6 hw7
   have hb7:Below w.heap.size w w7:=by
    rw[← hw7]
    exact(((HB6.out.setCell (by show w.heap.size≤w.heap.size+1+1;omega) _).setCell (by show w.heap.size≤w.heap.size+1+1;omega) _).setCell (by show w.heap.size≤w.heap.size+1+1+1;omega) _).setCell (by show w.heap.size≤w.heap.size+1+1+1;omega) _
   have HZ7:=Kh (And.intro z5 z6)
   have HB7:=Kh hb7
   have HW7:=Kh hw7
   have HE:=Kh (And.intro E0 (And.intro E1 (And.intro E2 E3)))
   clear z5 z6 hb7 hw7 E0 E1 E2 E3 V2 V3 hz6 hb6 HZ5 HZ6 HB5 HB6 HS2 HB1 HV2 HV3
   go_wp2
   rw[HW7.out]
   obtain⟨E0,E1,E2,E3⟩:=HE.out
   try simp only[Exit.inBlock,Exit.then]
   refine bodyPost_ret (by simp[results,Tryz.results170,go_sem,E0,E1,E2,E3];try rfl) rfl ?_
   exact⟨⟨s5,p5,n5,c5,s6,p6,n6,c6,rfl,HZ7.out.1,HZ7.out.2⟩,HB7.out⟩
def RetZE (w':World) (e:Ending) (q:Int):Prop:=∃ s p n c,e=.returned (.tuple #[.agg #[.bool s,.slice p n c],.int .i64 0])∧Zs w' s p n c q
theorem c_Exact (s:Bool) (p:Option Addr) (n c:Nat) (x:Int) (t:Bool) (q:Option Addr) (m d:Nat) (y:Int) (w:World) (h:Zr w s p n c x) (h':Zr w t q m d y) (hn:n≤17592186044400) (hm:m≤17592186044400) (hy:y≠0) (hd:x % y=0):
  Calls Tryz.prog 136 #[.agg #[.bool s,.slice p n c],.agg #[.bool t,.slice q m d]] w fun e w'=>RetZE w' e (x / y)∧Below w.heap.size w w':=by
 have hC:=fun w1 (hb:Below w.heap.size w w1)=>c_DivMod s p n c x t q m d y w1 (h.keep hb) (h'.keep hb) hn hm hy
 rw[hd]at hC
 have HC:=Kh hC
 clear hC h h' hd hy
 go_enter Tryz.func136,Tryz.ntmps136
 go_wp2_with fail
 obtain⟨w0,hw0,X0,X1,X2,hb0⟩:=bx3 w #[.bool s,.slice p n c] 84 #[.bool t,.slice q m d] 84 #[.bool false,.slice none 0 0] 84
 rw[hw0]
 have HV2:=Kh (Var2.of X2 (NotInt.bool _) (NotInt.slice _ _ _))
 have HB0:=Kh hb0
 clear hw0 X0 X1 X2 hb0
 refine(HC.out _ HB0.out).mono ?_
 rintro e w1 ⟨⟨s5,p5,n5,c5,s6,p6,n6,c6,rfl,hz5,hz6⟩,hb1⟩
 obtain rfl:n6=0:=hz6.2.1.symm
 have HZ5:=Kh hz5
 replace HV2:=Kh (HV2.out.next hb1)
 have HB1:=bt HB0 hb1
 obtain⟨wa,hwa⟩:∃ wa,(w1.alloc (.cells #[.bool s5,.slice p5 n5 c5] 84)).alloc (.cells #[.bool s6,.slice p6 0 c6] 84)=wa:=⟨_,rfl⟩
 obtain⟨Y0,Y1,hba⟩:=box2 w1 #[.bool s5,.slice p5 n5 c5] 84 #[.bool s6,.slice p6 0 c6] 84
 rw[hwa]at Y0 Y1 hba
 have a0:=Y0.at_ 0 rfl
 have a1:=Y0.at_ 1 rfl
 have a2:=Y1.at_ 0 rfl
 have a3:=Y1.at_ 1 rfl
 have V:=HV2.out.next hba
 obtain⟨⟨u0,hu0⟩,⟨u1,hu1⟩⟩:=V.cells
 have f0:=V.free 0
 have f1:=V.free 1
 have HZ:=Kh ((hz5.keep hba).put2 V.sts 0 1 (.bool s5) (.slice p5 n5 c5) (NotInt.bool _))
 have HB:=Kh (((HB1.out.trans (hba.mono HB1.out.size)).setCell (show w.heap.size≤(⟨w.heap.size+1+1,0,none⟩:Addr).block by show w.heap.size≤w.heap.size+1+1;omega) (.bool s5)).setCell (show w.heap.size≤(⟨w.heap.size+1+1,1,none⟩:Addr).block by show w.heap.size≤w.heap.size+1+1;omega) (.slice p5 n5 c5))
 clear hz5 hz6 hb1 HC HB0 HV2 HZ5 HB1 Y0 Y1 hba V
 go_wp2
 refine bodyPost_ret (by simp[results,Tryz.results136,go_sem,hu0,hu1];try rfl) rfl ?_
 exact⟨⟨s5,p5,n5,c5,rfl,HZ.out⟩,HB.out⟩
end Go.Proofs.YtenlbhlllgppmaaGreatDoor
namespace Go.Proofs.YtenlbhlllgppmaaGreatDoor
theorem over_num {n d:Int} (hd:0<d):(Rat.divInt n d).num=n / (Int.gcd n d:Nat):=by
 rw[Rat.num_divInt,Int.sign_eq_one_of_pos hd,Int.one_mul,Int.gcd_comm]
theorem over_den {n d:Int} (hd:0<d):((Rat.divInt n d).den:Int)=d / (Int.gcd n d:Nat):=by
 rw[Rat.den_divInt,if_neg (by omega),Int.gcd_comm,Int.natCast_ediv,Int.natAbs_of_nonneg (by omega)]
theorem over_neg (n d:Int):Rat.divInt (-n) (-d)=Rat.divInt n d:=Rat.neg_divInt_neg n d
theorem over_one (n:Int):(Rat.divInt n 1).num=n∧(Rat.divInt n 1).den=1:=by
 constructor
 ·rw[over_num (by decide)];simp
 ·have:=over_den (n:=n) (d:=1) (by decide)
  simp at this;omega
theorem over_zero (d:Int):Rat.divInt 0 d=0:=Rat.zero_divInt d
theorem rat_self (q:Rat):Rat.divInt q.num q.den=q:=Rat.num_divInt_den q
theorem rat_add (a b:Rat):a+b=Rat.divInt (a.num*b.den+b.num*a.den) (a.den*b.den):=by
 rw[Rat.add_def',← Rat.divInt_ofNat,Int.natCast_mul]
theorem rat_mul (a b:Rat):a*b=Rat.divInt (a.num*b.num) (a.den*b.den):=by
 rw[Rat.mul_def',← Rat.divInt_ofNat,Int.natCast_mul]
theorem rat_add_ints (m n:Int):Rat.divInt m 1+Rat.divInt n 1=Rat.divInt (m+n) 1:=by
 rw[Rat.divInt_add_divInt m n (by decide) (by decide)];simp
theorem num_le (n d:Int):(Rat.divInt n d).num.natAbs≤n.natAbs:=by
 rw[Rat.num_divInt]
 refine Nat.le_trans (Int.natAbs_ediv_le_natAbs _ _) ?_
 rw[Int.natAbs_mul]
 have:d.sign.natAbs≤1:=by
  rcases Int.lt_trichotomy d 0 with h|h|h
  ·rw[Int.sign_eq_neg_one_of_neg h];decide
  ·rw[h];decide
  ·rw[Int.sign_eq_one_of_pos h];decide
 have:=Nat.mul_le_mul_right n.natAbs this
 omega
theorem den_le {n d:Int} (h:d≠0):(Rat.divInt n d).den≤d.natAbs:=by
 rw[Rat.den_divInt,if_neg h]
 exact Nat.div_le_self _ _
def hq (q:Rat):Nat:=max (nd q.num.natAbs) (nd q.den)
theorem hq_num (q:Rat):nd q.num.natAbs≤hq q:=Nat.le_max_left _ _
theorem hq_den (q:Rat):nd q.den≤hq q:=Nat.le_max_right _ _
theorem hq_over {n d:Int} {K:Nat} (h:d≠0) (hn:nd n.natAbs≤K) (hd:nd d.natAbs≤K):hq (Rat.divInt n d)≤K:=
 Nat.max_le.2 ⟨Nat.le_trans (nd_mono (num_le n d)) hn,Nat.le_trans (nd_mono (den_le h)) hd⟩
theorem den_ne (q:Rat):(q.den:Int)≠0:=by have:=q.den_nz;omega
theorem hq_mul (a b:Rat):hq (a*b)≤hq a+hq b:=by
 rw[rat_mul]
 refine hq_over (Int.mul_ne_zero (den_ne a) (den_ne b)) ?_ ?_
 ·rw[Int.natAbs_mul]
  have:=nd_mul a.num.natAbs b.num.natAbs
  have:=hq_num a;have:=hq_num b
  omega
 ·rw[Int.natAbs_mul,Int.natAbs_natCast,Int.natAbs_natCast]
  have:=nd_mul a.den b.den
  have:=hq_den a;have:=hq_den b
  omega
theorem nd_add_int (a b:Int) {K:Nat} (ha:nd a.natAbs≤K) (hb:nd b.natAbs≤K):nd (a+b).natAbs≤K+1:=by
 have h1:=nd_mono (Int.natAbs_add_le a b)
 have h2:=nd_add a.natAbs b.natAbs
 omega
theorem hq_add (a b:Rat):hq (a+b)≤hq a+hq b+1:=by
 rw[rat_add]
 have a1:=hq_num a;have b1:=hq_num b;have a2:=hq_den a;have b2:=hq_den b
 refine hq_over (Int.mul_ne_zero (den_ne a) (den_ne b)) ?_ ?_
 ·refine nd_add_int _ _ ?_ ?_
  ·rw[Int.natAbs_mul,Int.natAbs_natCast];have:=nd_mul a.num.natAbs b.den;omega
  ·rw[Int.natAbs_mul,Int.natAbs_natCast];have:=nd_mul b.num.natAbs a.den;omega
 ·rw[Int.natAbs_mul,Int.natAbs_natCast,Int.natAbs_natCast]
  have:=nd_mul a.den b.den
  omega
end Go.Proofs.YtenlbhlllgppmaaGreatDoor
namespace Go.Proofs.YtenlbhlllgppmaaGreatDoor
open Go.RowKit
def Qr (w:World) (s:Bool) (p:Option Addr) (n c:Nat) (t:Bool) (q:Option Addr) (m d:Nat) (r:Rat):Prop:=∃ x y,Zr w s p n c x∧Zr w t q m d y∧Rat.divInt x y=r
def Qs (w:World) (s:Bool) (p:Option Addr) (n c:Nat) (t:Bool) (q:Option Addr) (m d:Nat) (r:Rat):Prop:=Zs w s p n c r.num∧Zs w t q m d r.den
theorem Qr.keep {w w':World} {s:Bool} {p:Option Addr} {n c:Nat} {t:Bool} {q:Option Addr} {m d:Nat} {r:Rat} (h:Qr w s p n c t q m d r) (hb:Below w.heap.size w w'):Qr w' s p n c t q m d r:=by
 obtain⟨x,y,h1,h2,h3⟩:=h
 exact⟨x,y,h1.keep hb,h2.keep hb,h3⟩
theorem Qs.keep {w w':World} {s:Bool} {p:Option Addr} {n c:Nat} {t:Bool} {q:Option Addr} {m d:Nat} {r:Rat} (h:Qs w s p n c t q m d r) (hb:Below w.heap.size w w'):Qs w' s p n c t q m d r:=⟨h.1.keep hb,h.2.keep hb⟩
theorem Qs.raw {w:World} {s:Bool} {p:Option Addr} {n c:Nat} {t:Bool} {q:Option Addr} {m d:Nat} {r:Rat} (h:Qs w s p n c t q m d r):Qr w s p n c t q m d r:=
 ⟨_,_,h.1.raw,h.2.raw,rat_self r⟩
theorem Qs.sizes {w:World} {s:Bool} {p:Option Addr} {n c:Nat} {t:Bool} {q:Option Addr} {m d:Nat} {r:Rat} (h:Qs w s p n c t q m d r):n≤hq r∧m≤hq r:=by
 have h1:=h.1.2.1
 have h2:=h.2.2.1
 rw[Int.natAbs_natCast]at h2
 rw[← h1,← h2]
 exact⟨hq_num r,hq_den r⟩
def RetQ (w':World) (e:Ending) (r:Rat):Prop:=∃ s p n c t q m d,e=.returned (.agg #[.bool s,.slice p n c,.bool t,.slice q m d])∧Qs w' s p n c t q m d r
def RetOne (e:Ending) (z:Int):Prop:=∃ b:Bool,e=.returned (.bool b)∧(b=true→z=1)
theorem c_one (s:Bool) (p:Option Addr) (n c:Nat) (z:Int) (w:World) (h:Zr w s p n c z) (hn:n≤35184372088830):
  Calls Tryz.prog 81 #[.agg #[.bool s,.slice p n c]] w fun e w'=>RetOne e z∧Below w.heap.size w w':=by
 obtain⟨a,hd,hz⟩:=h
 have HZ:=Kh hz
 have HB:=Kh (fun o=>(Below.refl w.heap.size w).alloc (Nat.le_refl _) o)
 by_cases h1:n=1
 ·subst h1
  obtain⟨g,o,rfl,hg,hc⟩:=hd.head (by omega)
  have hcell:∀ ob,(w.alloc ob).cell? ⟨g,o,none⟩=some (.int .u32 (a 0:Nat)):=fun ob=>by
   exact Lib.cell?_alloc_some ob (hc 0 (by omega))
  obtain⟨x,hx⟩:∃ x,a 0=x:=⟨_,rfl⟩
  rw[hx]at hcell
  have HX:=Kh hx
  by_cases hx1:x=1
  ·subst hx1
   cases s with
   | false=>
    have HV:=Kh (show z=1 by rw[← HZ.out,sg_false,vf,vf,HX.out];rfl)
    clear hd hz hc hx
    go_enter Tryz.func81,Tryz.ntmps81
    go_wp2
    go_ret
    exact⟨⟨true,rfl,fun _=>HV.out⟩,HB.out _⟩
   | true=>
    clear hd hz hc hx
    go_enter Tryz.func81,Tryz.ntmps81
    go_wp2
    go_ret
    exact⟨⟨false,rfl,fun h=>by cases h⟩,HB.out _⟩
  ·have hxb:((x:Int)==1)=false:=beq_eq_false_iff_ne.2 (by omega)
   clear hd hz hc hx
   go_enter Tryz.func81,Tryz.ntmps81
   go_wp2
   go_ret
   exact⟨⟨false,rfl,fun h=>by cases h⟩,HB.out _⟩
 ·have hnb:((n:Int)==1)=false:=beq_eq_false_iff_ne.2 (by omega)
  clear hd hz
  go_enter Tryz.func81,Tryz.ntmps81
  go_wp2
  go_ret
  exact⟨⟨false,rfl,fun h=>by cases h⟩,HB.out _⟩
end Go.Proofs.YtenlbhlllgppmaaGreatDoor
