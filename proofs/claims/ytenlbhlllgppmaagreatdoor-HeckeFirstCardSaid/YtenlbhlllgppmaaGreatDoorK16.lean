/- Contract of rational.over. -/
import Derived.Test.YtenlbhlllgppmaaGreatDoorK15
import Derived.Deep.RegionWith
import Derived.Deep.CutBlock
set_option maxRecDepth 100000
set_option maxHeartbeats 8000000
namespace Go.Proofs.YtenlbhlllgppmaaGreatDoor
open Go.RowKit
def TwoZ (w:World) (A B:Nat) (x y:Int):Prop:=∃ s p n c t q m d,Blk w A 84 #[.bool s,.slice p n c]∧Blk w B 84 #[.bool t,.slice q m d]∧Zs w s p n c x∧Zs w t q m d y
theorem Sts.box {w:World} {A:Nat} {s:Bool} {p:Option Addr} {n c:Nat} (h:Blk w A 84 #[.bool s,.slice p n c]):Sts w A:=
 Sts.of h (by intro v hv;simp at hv;rcases hv with rfl|rfl;exact NotInt.bool _;exact NotInt.slice _ _ _)
theorem two_put {w:World} {A B:Nat} {s s' t t':Bool} {p p' q q':Option Addr} {n n' c c' m m' d d':Nat} {x y:Int} (hne:A≠B)
  (hA:Blk w A 84 #[.bool s',.slice p' n' c']) (hB:Blk w B 84 #[.bool t',.slice q' m' d']) (hx:Zs w s p n c x) (hy:Zs w t q m d y):
  TwoZ ((((w.setCell ⟨A,0,none⟩ (.bool s)).setCell ⟨A,1,none⟩ (.slice p n c)).setCell ⟨B,0,none⟩ (.bool t)).setCell ⟨B,1,none⟩ (.slice q m d)) A B x y:=by
 have a1:=hA.set_ 0 (.bool s)
 have a2:=a1.set_ 1 (.slice p n c)
 have a3:=a2.far_ (p:=⟨B,0,none⟩) hne (.bool t)
 have a4:=a3.far_ (p:=⟨B,1,none⟩) hne (.slice q m d)
 have b1:=hB.far_ (p:=⟨A,0,none⟩) (Ne.symm hne) (.bool s)
 have b2:=b1.far_ (p:=⟨A,1,none⟩) (Ne.symm hne) (.slice p n c)
 have b3:=b2.set_ 0 (.bool t)
 have b4:=b3.set_ 1 (.slice q m d)
 refine⟨s,p,n,c,t,q,m,d,a4,b4,?_,?_⟩
 ·exact(hx.put2 (Sts.box hA) 0 1 _ _ (NotInt.bool _)).put2 (Sts.box b2) 0 1 _ _ (NotInt.bool _)
 ·exact(hy.put2 (Sts.box hA) 0 1 _ _ (NotInt.bool _)).put2 (Sts.box b2) 0 1 _ _ (NotInt.bool _)
theorem one_put {w:World} {A:Nat} {s s':Bool} {p p':Option Addr} {n n' c c':Nat} {x:Int}
  (hA:Blk w A 84 #[.bool s',.slice p' n' c']) (hx:Zs w s p n c x):
  Blk ((w.setCell ⟨A,0,none⟩ (.bool s)).setCell ⟨A,1,none⟩ (.slice p n c)) A 84 #[.bool s,.slice p n c]∧Zs ((w.setCell ⟨A,0,none⟩ (.bool s)).setCell ⟨A,1,none⟩ (.slice p n c)) s p n c x:=
 ⟨(hA.set_ 0 (.bool s)).set_ 1 (.slice p n c),hx.put2 (Sts.box hA) 0 1 _ _ (NotInt.bool _)⟩
theorem rat_put {w:World} {R:Nat} {s t:Bool} {p q:Option Addr} {n c m d:Nat} {r:Rat} {a b:Bool} {a' b':Option Addr} {i j k l:Nat} (hR:Blk w R 86 #[.bool a,.slice a' i j,.bool b,.slice b' k l]) (h:Qs w s p n c t q m d r) {w':World}
  (hw:(((w.setCell ⟨R,0,none⟩ (.bool s)).setCell ⟨R,1,none⟩ (.slice p n c)).setCell ⟨R,2,none⟩ (.bool t)).setCell ⟨R,3,none⟩ (.slice q m d)=w'):
  w'.cell? ⟨R,0,none⟩=some (.bool s)∧w'.cell? ⟨R,1,none⟩=some (.slice p n c)∧w'.cell? ⟨R,2,none⟩=some (.bool t)∧w'.cell? ⟨R,3,none⟩=some (.slice q m d)∧Qs w' s p n c t q m d r:=by
 subst hw
 have h4:=(((hR.set_ 0 (.bool s)).set_ 1 (.slice p n c)).set_ 2 (.bool t)).set_ 3 (.slice q m d)
 have s0:Sts w R:=Sts.of hR (by intro v hv;simp at hv;rcases hv with rfl|rfl|rfl|rfl <;> first|exact NotInt.bool _|exact NotInt.slice _ _ _)
 have s1:=s0.put ⟨R,0,none⟩ (.bool s) (NotInt.bool _)
 have s2:=s1.put ⟨R,1,none⟩ (.slice p n c) (NotInt.slice _ _ _)
 have s3:=s2.put ⟨R,2,none⟩ (.bool t) (NotInt.bool _)
 exact⟨h4.at_ 0 rfl,h4.at_ 1 rfl,h4.at_ 2 rfl,h4.at_ 3 rfl,(((h.1.put s0 0 _).put s1 1 _).put s2 2 _).put s3 3 _,(((h.2.put s0 0 _).put s1 1 _).put s2 2 _).put s3 3 _⟩
theorem below_putR {b w:World} {A D:Nat} (h:Below D b w) (h1:D≤A) (v0 v1 v2 v3:Value):Below D b ((((w.setCell ⟨A,0,none⟩ v0).setCell ⟨A,1,none⟩ v1).setCell ⟨A,2,none⟩ v2).setCell ⟨A,3,none⟩ v3):=
 (((h.setCell (p:=⟨A,0,none⟩) h1 v0).setCell (p:=⟨A,1,none⟩) h1 v1).setCell (p:=⟨A,2,none⟩) h1 v2).setCell (p:=⟨A,3,none⟩) h1 v3
def OverAt (wc:World) (A B:Nat) (x y:Int) (K:Nat) (r:Rat):Prop:=0<y∧Rat.divInt x y=r∧nd x.natAbs≤K∧nd y.natAbs≤K∧TwoZ wc A B x y
theorem blk_far4 {w:World} {A B C:Nat} {t:TypeId} {cs:Array Value} (h:Blk w C t cs) (h1:C≠A) (h2:C≠B) (v0 v1 v2 v3:Value):Blk ((((w.setCell ⟨A,0,none⟩ v0).setCell ⟨A,1,none⟩ v1).setCell ⟨B,0,none⟩ v2).setCell ⟨B,1,none⟩ v3) C t cs:=
 (((h.far_ (p:=⟨A,0,none⟩) h1 v0).far_ (p:=⟨A,1,none⟩) h1 v1).far_ (p:=⟨B,0,none⟩) h2 v2).far_ (p:=⟨B,1,none⟩) h2 v3
theorem below_put4 {b w:World} {A B D:Nat} (h:Below D b w) (h1:D≤A) (h2:D≤B) (v0 v1 v2 v3:Value):Below D b ((((w.setCell ⟨A,0,none⟩ v0).setCell ⟨A,1,none⟩ v1).setCell ⟨B,0,none⟩ v2).setCell ⟨B,1,none⟩ v3):=
 (((h.setCell (p:=⟨A,0,none⟩) h1 v0).setCell (p:=⟨A,1,none⟩) h1 v1).setCell (p:=⟨B,0,none⟩) h2 v2).setCell (p:=⟨B,1,none⟩) h2 v3
theorem c_over (s:Bool) (p:Option Addr) (n c:Nat) (x:Int) (t:Bool) (q:Option Addr) (m d:Nat) (y:Int) (w:World) (h:Zr w s p n c x) (h':Zr w t q m d y) (hn:n≤4398046511100) (hm:m≤4398046511100):
  Calls Tryz.prog 85 #[.agg #[.bool s,.slice p n c],.agg #[.bool t,.slice q m d]] w fun e w'=>RetQ w' e (Rat.divInt x y)∧Below w.heap.size w w':=by
 have HN1:=Kh (fun w1 (hb:Below w.heap.size w w1)=>c_Normal s p n c x w1 (h.keep hb) (by omega))
 have HN2:=Kh (fun w1 (hb:Below w.heap.size w w1)=>c_Normal t q m d y w1 (h'.keep hb) (by omega))
 have hx:=Nat.le_trans h.size hn
 have hy:=Nat.le_trans h'.size hm
 have HX:=Kh hx
 have HY:=Kh hy
 clear h h' hx hy
 go_enter Tryz.func85,Tryz.ntmps85
 go_upto_region 1 with(fail)
 obtain⟨w0,hw0,X0,X1,X2,hb0⟩:=bx3 w #[.bool s,.slice p n c] 84 #[.bool t,.slice q m d] 84 #[.bool false,.slice none 0 0,.bool false,.slice none 0 0] 86
 rw[hw0]
 clear hw0
 go_cut []from 6 to 9 (fun wc=>TwoZ wc w.heap.size (w.heap.size+1) x y∧Blk wc (w.heap.size+1+1) 86 #[.bool false,.slice none 0 0,.bool false,.slice none 0 0]∧Below w.heap.size w wc)
 case first=>
  have X0:=X0.drew_
  have X1:=X1.drew_
  have X2:=X2.drew_
  have hb0:=hb0.drew
  have c0:=X0.at_ 0 rfl
  have c1:=X0.at_ 1 rfl
  have c2:=X1.at_ 0 rfl
  have c3:=X1.at_ 1 rfl
  have HB0:=Kh hb0
  have HA0:=Kh X0
  have HA1:=Kh X1
  have HA2:=Kh X2
  have M1:True:=trivial
  clear X0 X1 X2 hb0
  go_region_with (first
   |(go_at_call 134;clear M1;refine(HN1.out _ HB0.out).mono ?_;rintro e w2 ⟨⟨s2,p2,n2,e2,rfl,hz2⟩,hb2⟩;have HB2:=bt HB0 hb2;have HE0:=Kh (bk HA0 hb2);have HE1:=Kh (bk HA1 hb2);have HE2:=Kh (bk HA2 hb2);have HZ2:=Kh hz2;have a2:=HE1.out.at_ 0 rfl;have a3:=HE1.out.at_ 1 rfl;clear hz2 hb2 HA0 HA1 HA2 HB0)
   |(go_at_call 134;refine(HN2.out _ HB2.out).mono ?_;rintro e w3 ⟨⟨s3,p3,n3,e3,rfl,hz3⟩,hb3⟩;have HB3:=bt HB2 hb3;have HF0:=Kh (bk HE0 hb3);have HF1:=Kh (bk HE1 hb3);have HF2:=Kh (bk HE2 hb3);have HZ3:=Kh (And.intro (HZ2.out.keep hb3) hz3);have b0:=HF0.out.at_ 0 rfl;have b1:=HF0.out.at_ 1 rfl;have b2:=HF1.out.at_ 0 rfl;have b3:=HF1.out.at_ 1 rfl;have f0:=HF0.out.free_ 0;have f1:=HF0.out.free_ 1;have f2:=HF1.out.free_ 0;have f3:=HF1.out.free_ 1;clear hz3 hb3 HE0 HE1 HE2 HB2 HZ2))
  all_goals go_wp2
  all_goals go_meet
  all_goals exact⟨two_put (by omega) HF0.out HF1.out HZ3.out.1 HZ3.out.2,blk_far4 HF2.out (by omega) (by omega) _ _ _ _,below_put4 HB3.out (Nat.le_refl _) (by omega) _ _ _ _⟩
 case rest=>
  obtain⟨⟨s1,p1,n1,c1,t1,q1,m1,d1,XA,XB,zx,zy⟩,XR,hb⟩:=hcut
  have hn1:nd x.natAbs=n1:=zx.2.1
  have hm1:nd y.natAbs=m1:=zy.2.1
  have hn1l:n1≤4398046511100:=by rw[← hn1];exact HX.out
  have hm1l:m1≤4398046511100:=by rw[← hm1];exact HY.out
  have ht1:t1=decide (y<0):=zy.1
  have a0:=XA.at_ 0 rfl
  have a1:=XA.at_ 1 rfl
  have a2:=XB.at_ 0 rfl
  have a3:=XB.at_ 1 rfl
  have HN1':=Kh hn1
  have HM1':=Kh hm1
  have HXA:=Kh XA
  have HXB:=Kh XB
  have HXR:=Kh XR
  have HB0:=Kh hb
  have HZX:=Kh zx
  have HZY:=Kh zy
  have HT1:=Kh ht1
  clear HN1 HN2 X0 X1 X2 hb0 hn1 hm1 XA XB XR hb zx zy ht1
  go_upto_block 0 with(fail)
  go_cut []from 10 to 29 (fun wd=>(∃ x' y',OverAt wd w.heap.size (w.heap.size+1) x' y' 4398046511100 (Rat.divInt x y))∧Blk wd (w.heap.size+1+1) 86 #[.bool false,.slice none 0 0,.bool false,.slice none 0 0]∧Below w.heap.size w wd)
  case first=>
   by_cases hm0:m1=0
   ·have HG:=Kh (show(0:Rat)=Rat.divInt x y by
     have:y=0:=by have:=nd_pos (v:=y.natAbs);have:=HM1'.out;omega
     rw[this,Rat.divInt_zero])
    subst hm0
    have HO:=Kh (c_Of 1 wc (by omega) (by omega))
    go_wp2_with fail
    refine HO.out.mono ?_
    rintro e w2 ⟨⟨s2,p2,n2,e2,rfl,hz2⟩,hb2⟩
    have HR:=Kh (bk HXR hb2)
    have HB:=bt HB0 hb2
    have HQ:=Kh (show Qs w2 false none 0 0 s2 p2 n2 e2 0 from⟨⟨rfl,rfl,Nm.nil _⟩,hz2⟩)
    clear hz2 hb2 HO HXR HB0 HXA HXB HZX HZY a0 a1 a2 a3
    have r0:=HR.out.at_ 0 rfl
    have r1:=HR.out.at_ 1 rfl
    have r2:=HR.out.at_ 2 rfl
    have r3:=HR.out.at_ 3 rfl
    have f0:=HR.out.free_ 0
    have f1:=HR.out.free_ 1
    have f2:=HR.out.free_ 2
    have f3:=HR.out.free_ 3
    obtain⟨w9,hw9⟩:∃ w9,(((w2.setCell ⟨w.heap.size+1+1,0,none⟩ (.bool false)).setCell ⟨w.heap.size+1+1,1,none⟩ (.slice none 0 0)).setCell ⟨w.heap.size+1+1,2,none⟩ (.bool s2)).setCell ⟨w.heap.size+1+1,3,none⟩ (.slice p2 n2 e2)=w9:=⟨_,rfl⟩
    obtain⟨E0,E1,E2,E3,hq9⟩:=rat_put HR.out HQ.out hw9
    have hb9:Below w.heap.size w w9:=by rw[← hw9];exact below_putR HB.out (by omega) _ _ _ _
    have HW9:=Kh hw9
    have HE9:=Kh (And.intro E0 (And.intro E1 (And.intro E2 E3)))
    have HQ9:=Kh hq9
    have HB9:=Kh hb9
    clear E0 E1 E2 E3 hq9 hb9 hw9 HQ HB HR
    go_wp2
    try rw[HW9.out]
    obtain⟨E0,E1,E2,E3⟩:=HE9.out
    try simp only[Exit.inBlock,Exit.then]
    refine bodyPost_ret (by simp[results,Tryz.results85,go_sem,E0,E1,E2,E3];try rfl) rfl ?_
    exact⟨⟨false,none,0,0,s2,p2,n2,e2,rfl,HG.out▸HQ9.out⟩,HB9.out⟩
   ·have hmb:((m1:Int)==0)=false:=beq_eq_false_iff_ne.2 (by omega)
    by_cases hn0:n1=0
    ·have HG:=Kh (show(0:Rat)=Rat.divInt x y by
      have:x=0:=by have:=nd_pos (v:=x.natAbs);have:=HN1'.out;omega
      rw[this,over_zero])
     subst hn0
     have HO:=Kh (c_Of 1 wc (by omega) (by omega))
     go_wp2_with fail
     refine HO.out.mono ?_
     rintro e w2 ⟨⟨s2,p2,n2,e2,rfl,hz2⟩,hb2⟩
     have HR:=Kh (bk HXR hb2)
     have HB:=bt HB0 hb2
     have HQ:=Kh (show Qs w2 false none 0 0 s2 p2 n2 e2 0 from⟨⟨rfl,rfl,Nm.nil _⟩,hz2⟩)
     clear hz2 hb2 HO HXR HB0 HXA HXB HZX HZY a0 a1 a2 a3
     have r0:=HR.out.at_ 0 rfl
     have r1:=HR.out.at_ 1 rfl
     have r2:=HR.out.at_ 2 rfl
     have r3:=HR.out.at_ 3 rfl
     have f0:=HR.out.free_ 0
     have f1:=HR.out.free_ 1
     have f2:=HR.out.free_ 2
     have f3:=HR.out.free_ 3
     obtain⟨w9,hw9⟩:∃ w9,(((w2.setCell ⟨w.heap.size+1+1,0,none⟩ (.bool false)).setCell ⟨w.heap.size+1+1,1,none⟩ (.slice none 0 0)).setCell ⟨w.heap.size+1+1,2,none⟩ (.bool s2)).setCell ⟨w.heap.size+1+1,3,none⟩ (.slice p2 n2 e2)=w9:=⟨_,rfl⟩
     obtain⟨E0,E1,E2,E3,hq9⟩:=rat_put HR.out HQ.out hw9
     have hb9:Below w.heap.size w w9:=by rw[← hw9];exact below_putR HB.out (by omega) _ _ _ _
     have HW9:=Kh hw9
     have HE9:=Kh (And.intro E0 (And.intro E1 (And.intro E2 E3)))
     have HQ9:=Kh hq9
     have HB9:=Kh hb9
     clear E0 E1 E2 E3 hq9 hb9 hw9 HQ HB HR
     go_wp2
     try rw[HW9.out]
     obtain⟨E0,E1,E2,E3⟩:=HE9.out
     try simp only[Exit.inBlock,Exit.then]
     refine bodyPost_ret (by simp[results,Tryz.results85,go_sem,E0,E1,E2,E3];try rfl) rfl ?_
     exact⟨⟨false,none,0,0,s2,p2,n2,e2,rfl,HG.out▸HQ9.out⟩,HB9.out⟩
    ·have hnb:((n1:Int)==0)=false:=beq_eq_false_iff_ne.2 (by omega)
     have hy0:y≠0:=fun h=>hm0 (by rw[← HM1'.out,h];rfl)
     have HY0:=Kh hy0
     clear hy0
     cases t1 with
     | false=>
      have hyp:0<y:=by have h1:=HT1.out;have h2:=HY0.out;simp at h1;omega
      have HF:=Kh (show OverAt wc w.heap.size (w.heap.size+1) x y 4398046511100 (Rat.divInt x y)from⟨hyp,rfl,HX.out,HY.out,_,_,_,_,_,_,_,_,HXA.out,HXB.out,HZX.out,HZY.out⟩)
      clear hyp
      go_wp2
      go_meet
      case rel=>exact⟨⟨x,y,HF.out⟩,HXR.out,HB0.out⟩
     | true=>
      have hyn:0 < -y:=by have h1:=HT1.out;simp at h1;omega
      have HYN:=Kh hyn
      have HG1:=Kh (fun w1 (hb:Below wc.heap.size wc w1)=>c_Neg s1 p1 n1 c1 x w1 (HZX.out.keep hb).raw (by omega))
      have HG2:=Kh (fun w1 (hb:Below wc.heap.size wc w1)=>c_Neg true q1 m1 d1 y w1 (HZY.out.keep hb).raw (by omega))
      have HBD:=Kh (Below.refl wc.heap.size wc).drew
      have M1:True:=trivial
      clear hyn
      go_upto_region 5 with(fail)
      go_region_with (first
       |(go_at_call 98;clear M1;refine(HG1.out _ HBD.out).mono ?_;rintro e w2 ⟨⟨s2,p2,n2,e2,rfl,hz2⟩,hb2⟩;have HB2:=bt HBD hb2;have HZ2:=Kh hz2;have HE1:=Kh (HXB.out.below_ HB2.out HXB.out.lt);have e2':=HE1.out.at_ 0 rfl;have e3':=HE1.out.at_ 1 rfl;clear hz2 hb2 HE1)
       |(go_at_call 98;refine(HG2.out _ HB2.out).mono ?_;rintro e w3 ⟨⟨s3,p3,n3,e3,rfl,hz3⟩,hb3⟩;have HB3:=bt HB2 hb3;have HF0:=Kh (HXA.out.below_ HB3.out HXA.out.lt);have HF1:=Kh (HXB.out.below_ HB3.out HXB.out.lt);have HF2:=Kh (HXR.out.below_ HB3.out HXR.out.lt);have HZ3:=Kh (And.intro (HZ2.out.keep hb3) hz3);have b0:=HF0.out.at_ 0 rfl;have b1:=HF0.out.at_ 1 rfl;have b2:=HF1.out.at_ 0 rfl;have b3:=HF1.out.at_ 1 rfl;have f0:=HF0.out.free_ 0;have f1:=HF0.out.free_ 1;have f2:=HF1.out.free_ 0;have f3:=HF1.out.free_ 1;clear hz3 hb3 HB2 HZ2))
      all_goals go_wp2
      all_goals go_meet
      all_goals exact⟨⟨-x,-y,HYN.out,over_neg x y,by rw[Int.natAbs_neg];exact HX.out,by rw[Int.natAbs_neg];exact HY.out,two_put (by omega) HF0.out HF1.out HZ3.out.1 HZ3.out.2⟩,blk_far4 HF2.out (by omega) (by omega) _ _ _ _,below_put4 (HB0.out.trans (HB3.out.mono HB0.out.size)) (Nat.le_refl _) (by omega) _ _ _ _⟩
  case rest=>
   clear HN1' HM1' HXA HXB HXR HB0 HZX HZY HT1 HX HY a0 a1 a2 a3 hn1l hm1l n1 m1 s1 t1 p1 q1 c1 d1
   obtain⟨⟨x',y',hy,hr,hxl,hyl,s1,p1,n1,c1,t1,q1,m1,d1,XA,XB,zx,zy⟩,XR,hb⟩:=hcut
   have a0:=XA.at_ 0 rfl
   have a1:=XA.at_ 1 rfl
   have a2:=XB.at_ 0 rfl
   have a3:=XB.at_ 1 rfl
   have hn1l:n1≤4398046511100:=by rw[← zx.2.1];exact hxl
   have hm1l:m1≤4398046511100:=by rw[← zy.2.1];exact hyl
   have HO:=Kh (c_one t1 q1 m1 d1 y' wc zy.raw (by omega))
   have HZX:=Kh zx
   have HZY:=Kh zy
   have HXA:=Kh XA
   have HXB:=Kh XB
   have HXR:=Kh XR
   have HB0:=Kh hb
   have HY0:=Kh hy
   have HRR:=Kh hr
   clear hy hr hxl hyl XA XB zx zy XR hb
   go_wp2_with fail
   refine HO.out.mono ?_
   rintro e w2 ⟨⟨b,rfl,hb1⟩,hb2⟩
   have HB2:=Kh hb2
   have HBO:=Kh hb1
   clear hb2 HO hb1
   have b0:=(HXA.out.below_ HB2.out HXA.out.lt).at_ 0 rfl
   have b1:=(HXA.out.below_ HB2.out HXA.out.lt).at_ 1 rfl
   have b2:=(HXB.out.below_ HB2.out HXB.out.lt).at_ 0 rfl
   have b3:=(HXB.out.below_ HB2.out HXB.out.lt).at_ 1 rfl
   clear a0 a1 a2 a3
   cases b with
   | true=>
    have HG:=Kh (show Rat.divInt x' 1=Rat.divInt x y by rw[← HRR.out,HBO.out rfl])
    have HQ:=Kh (show Qs w2 s1 p1 n1 c1 t1 q1 m1 d1 (Rat.divInt x' 1)by
     have h1:=HZX.out.keep HB2.out
     have h2:=HZY.out.keep HB2.out
     rw[HBO.out rfl]at h2
     unfold Qs
     rw[(over_one x').1,(over_one x').2]
     exact⟨h1,h2⟩)
    have HR:=Kh (HXR.out.below_ HB2.out HXR.out.lt)
    have HB:=Kh (HB0.out.trans (HB2.out.mono HB0.out.size))
    clear HBO HRR HY0 HZX HZY HXA HXB HXR HB0 HB2
    have r0:=HR.out.at_ 0 rfl
    have r1:=HR.out.at_ 1 rfl
    have r2:=HR.out.at_ 2 rfl
    have r3:=HR.out.at_ 3 rfl
    have f0:=HR.out.free_ 0
    have f1:=HR.out.free_ 1
    have f2:=HR.out.free_ 2
    have f3:=HR.out.free_ 3
    obtain⟨w9,hw9⟩:∃ w9,(((w2.setCell ⟨w.heap.size+1+1,0,none⟩ (.bool s1)).setCell ⟨w.heap.size+1+1,1,none⟩ (.slice p1 n1 c1)).setCell ⟨w.heap.size+1+1,2,none⟩ (.bool t1)).setCell ⟨w.heap.size+1+1,3,none⟩ (.slice q1 m1 d1)=w9:=⟨_,rfl⟩
    obtain⟨E0,E1,E2,E3,hq9⟩:=rat_put HR.out HQ.out hw9
    have hb9:Below w.heap.size w w9:=by rw[← hw9];exact below_putR HB.out (by omega) _ _ _ _
    have HW9:=Kh hw9
    have HE9:=Kh (And.intro E0 (And.intro E1 (And.intro E2 E3)))
    have HQ9:=Kh hq9
    have HB9:=Kh hb9
    clear E0 E1 E2 E3 hq9 hb9 hw9 HQ HB HR
    go_wp2
    try rw[HW9.out]
    obtain⟨E0,E1,E2,E3⟩:=HE9.out
    try simp only[Exit.inBlock,Exit.then]
    refine bodyPost_ret (by simp[results,Tryz.results85,go_sem,E0,E1,E2,E3];try rfl) rfl ?_
    exact⟨⟨s1,p1,n1,c1,t1,q1,m1,d1,rfl,HG.out▸HQ9.out⟩,HB9.out⟩
   | false=>
    have HGC:=Kh (c_Gcd s1 p1 n1 c1 x' t1 q1 m1 d1 y' w2 (HZX.out.keep HB2.out).raw (HZY.out.keep HB2.out).raw (by omega) (by omega))
    clear HBO
    go_wp2_with fail
    refine HGC.out.mono ?_
    rintro e w3 ⟨⟨s3,p3,n3,e3,rfl,hz3⟩,hb3⟩
    obtain⟨wg,hwg⟩:∃ wg,w3.alloc (.cells #[.bool s3,.slice p3 n3 e3] 84)=wg:=⟨_,rfl⟩
    obtain⟨XG,hbg⟩:=box1 w3 #[.bool s3,.slice p3 n3 e3] 84
    rw[hwg]at XG hbg
    have hb23:Below wc.heap.size wc w3:=HB2.out.trans (hb3.mono HB2.out.size)
    have hbd:Below wc.heap.size wc wg:=hb23.trans (hbg.mono hb23.size)
    have hgn:n3≤n1+m1:=by
     have h1:=hz3.2.1
     rw[Int.natAbs_natCast]at h1
     rw[← h1]
     by_cases hx0:x'.natAbs=0
     ·have e:Int.gcd x' y'=y'.natAbs:=by show Nat.gcd x'.natAbs y'.natAbs=_;rw[hx0,Nat.gcd_zero_left]
      rw[e];have:=HZY.out.2.1;omega
     ·have e:=nd_mono (Nat.gcd_le_left y'.natAbs (show 0<x'.natAbs by omega))
      have:=HZX.out.2.1
      exact Nat.le_trans e (by omega)
    have hge:w3.heap.size≠w.heap.size∧w3.heap.size≠w.heap.size+1∧w3.heap.size≠w.heap.size+1+1:=by
     have h1:=HXA.out.lt;have h2:=HXB.out.lt;have h3:=HXR.out.lt;have h4:=hb23.size
     omega
    obtain⟨gb,hgb⟩:∃ gb,w3.heap.size=gb:=⟨_,rfl⟩
    rw[hgb]at XG hge
    have HXG:=Kh XG
    have HGE:=Kh hge
    have HZG:=Kh (hz3.keep hbg)
    have HD:=Kh hbd
    have g0:=XG.at_ 0 rfl
    have g1:=XG.at_ 1 rfl
    have HO:=Kh (c_one s3 p3 n3 e3 _ wg (hz3.keep hbg).raw (by omega))
    clear hz3 hb3 HGC hb23 hbd hbg XG hge b0 b1 b2 b3
    go_wp2_with fail
    refine HO.out.mono ?_
    rintro e w4 ⟨⟨b,rfl,hb1⟩,hb4⟩
    have hb04:Below wc.heap.size wc w4:=HD.out.trans (hb4.mono HD.out.size)
    have HBO:=Kh hb1
    replace HD:=Kh hb04
    replace HXA:=Kh (bk HXA hb04)
    replace HXB:=Kh (bk HXB hb04)
    replace HXR:=Kh (bk HXR hb04)
    replace HXG:=Kh (bk HXG hb4)
    replace HZX:=Kh (HZX.out.keep hb04)
    replace HZY:=Kh (HZY.out.keep hb04)
    replace HZG:=Kh (HZG.out.keep hb4)
    have HBW:=bt HB0 hb04
    clear hb1 hb4 hb04 HO HB0 HB2 g0 g1 HD
    go_upto_if 40 with(fail)
    go_cut []from 41 to 52 (fun wf=>(∃ s' p' n' c' t' q' m' d',Blk wf w.heap.size 84 #[.bool s',.slice p' n' c']∧Blk wf (w.heap.size+1) 84 #[.bool t',.slice q' m' d']∧Qs wf s' p' n' c' t' q' m' d' (Rat.divInt x y))∧Blk wf (w.heap.size+1+1) 86 #[.bool false,.slice none 0 0,.bool false,.slice none 0 0]∧Below w.heap.size w wf)
    case first=>
     cases b with
     | true=>
      have HQ:=Kh (show Qs w4 s1 p1 n1 c1 t1 q1 m1 d1 (Rat.divInt x y)by
       have h1:=over_num (n:=x') HY0.out
       have h2:=over_den (n:=x') HY0.out
       rw[HBO.out rfl,Int.ediv_one,HRR.out]at h1 h2
       unfold Qs
       rw[h1,h2]
       exact⟨HZX.out,HZY.out⟩)
      clear HBO
      go_wp2
      go_meet
      case rel=>exact⟨⟨_,_,_,_,_,_,_,_,HXA.out,HXB.out,HQ.out⟩,HXR.out,HBW.out⟩
     | false=>
      have hg0:((Int.gcd x' y':Nat):Int)≠0:=by
       have h1:=Int.gcd_pos_iff (a:=x') (b:=y')
       have h2:=HY0.out
       have h3:=h1.2 (Or.inr (by omega))
       omega
      have HE1:=Kh (fun w5 (hb:Below w4.heap.size w4 w5)=>c_Exact s1 p1 n1 c1 x' s3 p3 n3 e3 _ w5 (HZX.out.keep hb).raw (HZG.out.keep hb).raw (by omega) (by omega) hg0 (Int.emod_eq_zero_of_dvd (Int.gcd_dvd_left ..)))
      have HE2:=Kh (fun w5 (h1:Zr w5 t1 q1 m1 d1 y') (h2:Zr w5 s3 p3 n3 e3 (Int.gcd x' y':Nat))=>c_Exact t1 q1 m1 d1 y' s3 p3 n3 e3 _ w5 h1 h2 (by omega) (by omega) hg0 (Int.emod_eq_zero_of_dvd (Int.gcd_dvd_right ..)))
      have a0:=HXA.out.at_ 0 rfl
      have a1:=HXA.out.at_ 1 rfl
      have g0:=HXG.out.at_ 0 rfl
      have g1:=HXG.out.at_ 1 rfl
      clear hg0 HBO
      go_wp2_with fail
      refine(HE1.out w4 (Below.refl _ _)).mono ?_
      rintro e w5 ⟨⟨s5,p5,n5,e5,rfl,hz5⟩,hb5⟩
      have YA:=bk HXA hb5
      have YB:=bk HXB hb5
      have YR:=bk HXR hb5
      have YG:=bk HXG hb5
      obtain⟨w6,hw6⟩:∃ w6,(w5.setCell ⟨w.heap.size,0,none⟩ (.bool s5)).setCell ⟨w.heap.size,1,none⟩ (.slice p5 n5 e5)=w6:=⟨_,rfl⟩
      obtain⟨ZA,z5⟩:=one_put YA hz5
      have st:=Sts.box YA
      have ZB:=(YB.far_ (p:=⟨w.heap.size,0,none⟩) (by show w.heap.size+1≠w.heap.size;omega) (.bool s5)).far_ (p:=⟨w.heap.size,1,none⟩) (by show w.heap.size+1≠w.heap.size;omega) (.slice p5 n5 e5)
      have ZR:=(YR.far_ (p:=⟨w.heap.size,0,none⟩) (by show w.heap.size+1+1≠w.heap.size;omega) (.bool s5)).far_ (p:=⟨w.heap.size,1,none⟩) (by show w.heap.size+1+1≠w.heap.size;omega) (.slice p5 n5 e5)
      have ZG:=(YG.far_ (p:=⟨w.heap.size,0,none⟩) HGE.out.1 (.bool s5)).far_ (p:=⟨w.heap.size,1,none⟩) HGE.out.1 (.slice p5 n5 e5)
      have zy:=(HZY.out.keep hb5).put2 st 0 1 (.bool s5) (.slice p5 n5 e5) (NotInt.bool _)
      have zg:=(HZG.out.keep hb5).put2 st 0 1 (.bool s5) (.slice p5 n5 e5) (NotInt.bool _)
      have hb6:Below w.heap.size w ((w5.setCell ⟨w.heap.size,0,none⟩ (.bool s5)).setCell ⟨w.heap.size,1,none⟩ (.slice p5 n5 e5)):=((HBW.out.trans (hb5.mono HBW.out.size)).setCell (Nat.le_refl _) _).setCell (Nat.le_refl _) _
      rw[hw6]at ZA ZB ZR ZG zy zg hb6 z5
      have a0:=YA.at_ 0 rfl
      have a1:=YA.at_ 1 rfl
      have f0:=YA.free_ 0
      have f1:=YA.free_ 1
      have b2:=ZB.at_ 0 rfl
      have b3:=ZB.at_ 1 rfl
      have g0:=ZG.at_ 0 rfl
      have g1:=ZG.at_ 1 rfl
      have HZA:=Kh ZA
      have HZB:=Kh ZB
      have HZR:=Kh ZR
      have HZ5:=Kh z5
      have HE3:=Kh (HE2.out w6 zy.raw zg.raw)
      have HB6:=Kh hb6
      clear hb5 hz5 YA YB YR YG ZA ZB ZR ZG z5 zy zg hb6 st HE1 HE2 HBW HXA HXB HXR HXG HZX HZY HZG
      go_wp2_with fail
      try rw[hw6]
      refine HE3.out.mono ?_
      rintro e w7 ⟨⟨s7,p7,n7,e7,rfl,hz7⟩,hb7⟩
      have YA:=bk HZA hb7
      have YB:=bk HZB hb7
      have YR:=bk HZR hb7
      obtain⟨ZB,z7⟩:=one_put YB hz7
      have ZA:=(YA.far_ (p:=⟨w.heap.size+1,0,none⟩) (by show w.heap.size≠w.heap.size+1;omega) (.bool s7)).far_ (p:=⟨w.heap.size+1,1,none⟩) (by show w.heap.size≠w.heap.size+1;omega) (.slice p7 n7 e7)
      have ZR:=(YR.far_ (p:=⟨w.heap.size+1,0,none⟩) (by show w.heap.size+1+1≠w.heap.size+1;omega) (.bool s7)).far_ (p:=⟨w.heap.size+1,1,none⟩) (by show w.heap.size+1+1≠w.heap.size+1;omega) (.slice p7 n7 e7)
      have z5:=(HZ5.out.keep hb7).put2 (Sts.box YB) 0 1 (.bool s7) (.slice p7 n7 e7) (NotInt.bool _)
      have hb8:Below w.heap.size w ((w7.setCell ⟨w.heap.size+1,0,none⟩ (.bool s7)).setCell ⟨w.heap.size+1,1,none⟩ (.slice p7 n7 e7)):=((HB6.out.trans (hb7.mono HB6.out.size)).setCell (by show w.heap.size≤w.heap.size+1;omega) _).setCell (by show w.heap.size≤w.heap.size+1;omega) _
      have c0:=YB.at_ 0 rfl
      have c1:=YB.at_ 1 rfl
      have f2:=YB.free_ 0
      have f3:=YB.free_ 1
      have HF:=Kh (show(∃ s' p' n' c' t' q' m' d',Blk ((w7.setCell ⟨w.heap.size+1,0,none⟩ (.bool s7)).setCell ⟨w.heap.size+1,1,none⟩ (.slice p7 n7 e7)) w.heap.size 84 #[.bool s',.slice p' n' c']∧Blk ((w7.setCell ⟨w.heap.size+1,0,none⟩ (.bool s7)).setCell ⟨w.heap.size+1,1,none⟩ (.slice p7 n7 e7)) (w.heap.size+1) 84 #[.bool t',.slice q' m' d']∧Qs ((w7.setCell ⟨w.heap.size+1,0,none⟩ (.bool s7)).setCell ⟨w.heap.size+1,1,none⟩ (.slice p7 n7 e7)) s' p' n' c' t' q' m' d' (Rat.divInt x y))by
       refine⟨_,_,_,_,_,_,_,_,ZA,ZB,?_⟩
       have h1:=over_num (n:=x') HY0.out
       have h2:=over_den (n:=x') HY0.out
       rw[HRR.out]at h1 h2
       unfold Qs
       rw[h1,h2]
       exact⟨z5,z7⟩)
      have HZR':=Kh ZR
      have HB8:=Kh hb8
      clear hb7 hz7 YA YB YR ZA ZB ZR z5 z7 hb8 HE3 HB6 HZA HZB HZR HZ5 a0 a1 f0 f1 b2 b3 g0 g1 hw6
      go_wp2
      go_meet
      case rel=>exact⟨HF.out,HZR'.out,HB8.out⟩
    case rest=>
     clear HXA HXB HXR HXG HZX HZY HZG HGE HBW HBO HRR HY0
     obtain⟨⟨s5,p5,n5,e5,t5,q5,m5,d5,XA,XB,hq⟩,XR,hb⟩:=hcut
     have a0:=XA.at_ 0 rfl
     have a1:=XA.at_ 1 rfl
     have a2:=XB.at_ 0 rfl
     have a3:=XB.at_ 1 rfl
     have HQ:=Kh hq
     have HR:=Kh XR
     have HB:=Kh hb
     clear XA XB XR hq hb
     have r0:=HR.out.at_ 0 rfl
     have r1:=HR.out.at_ 1 rfl
     have r2:=HR.out.at_ 2 rfl
     have r3:=HR.out.at_ 3 rfl
     have f0:=HR.out.free_ 0
     have f1:=HR.out.free_ 1
     have f2:=HR.out.free_ 2
     have f3:=HR.out.free_ 3
     obtain⟨w9,hw9⟩:∃ w9,(((wc.setCell ⟨w.heap.size+1+1,0,none⟩ (.bool s5)).setCell ⟨w.heap.size+1+1,1,none⟩ (.slice p5 n5 e5)).setCell ⟨w.heap.size+1+1,2,none⟩ (.bool t5)).setCell ⟨w.heap.size+1+1,3,none⟩ (.slice q5 m5 d5)=w9:=⟨_,rfl⟩
     obtain⟨E0,E1,E2,E3,hq9⟩:=rat_put HR.out HQ.out hw9
     have hb9:Below w.heap.size w w9:=by rw[← hw9];exact below_putR HB.out (by omega) _ _ _ _
     have HW9:=Kh hw9
     have HE9:=Kh (And.intro E0 (And.intro E1 (And.intro E2 E3)))
     have HQ9:=Kh hq9
     have HB9:=Kh hb9
     clear E0 E1 E2 E3 hq9 hb9 hw9 HQ HB HR
     go_wp2
     try rw[HW9.out]
     obtain⟨E0,E1,E2,E3⟩:=HE9.out
     try simp only[Exit.inBlock,Exit.then]
     refine bodyPost_ret (by simp[results,Tryz.results85,go_sem,E0,E1,E2,E3];try rfl) rfl ?_
     exact⟨⟨s5,p5,n5,e5,t5,q5,m5,d5,rfl,HQ9.out⟩,HB9.out⟩
theorem Qs.put4 {w:World} {R:Nat} (s0:Sts w R) {s t:Bool} {p q:Option Addr} {n c m d:Nat} {r:Rat} (h:Qs w s p n c t q m d r) (v0 v1 v2 v3:Value) (h0:NotInt v0) (h1:NotInt v1) (h2:NotInt v2):
  Qs ((((w.setCell ⟨R,0,none⟩ v0).setCell ⟨R,1,none⟩ v1).setCell ⟨R,2,none⟩ v2).setCell ⟨R,3,none⟩ v3) s p n c t q m d r:=by
 have s1:=s0.put ⟨R,0,none⟩ v0 h0
 have s2:=s1.put ⟨R,1,none⟩ v1 h1
 have s3:=s2.put ⟨R,2,none⟩ v2 h2
 exact⟨(((h.1.put s0 0 _).put s1 1 _).put s2 2 _).put s3 3 _,(((h.2.put s0 0 _).put s1 1 _).put s2 2 _).put s3 3 _⟩
theorem c_qNormal (s:Bool) (p:Option Addr) (n c:Nat) (x:Int) (t:Bool) (q:Option Addr) (m d:Nat) (y:Int) (w:World) (h:Zr w s p n c x) (h':Zr w t q m d y) (hn:n≤4398046511100) (hm:m≤4398046511100):
  Calls Tryz.prog 80 #[.agg #[.bool s,.slice p n c,.bool t,.slice q m d]] w fun e w'=>RetQ w' e (Rat.divInt x y)∧Below w.heap.size w w':=by
 have HC:=Kh (fun w1 (hb:Below w.heap.size w w1)=>c_over s p n c x t q m d y w1 (h.keep hb) (h'.keep hb) hn hm)
 clear h h'
 go_enter Tryz.func80,Tryz.ntmps80
 go_wp2_with fail
 obtain⟨w0,hw0,X0,X1,hb0⟩:=bx2 w #[.bool s,.slice p n c,.bool t,.slice q m d] 86 #[.bool false,.slice none 0 0,.bool false,.slice none 0 0] 86
 rw[hw0]
 have HX1:=Kh X1
 have HB0:=Kh hb0
 clear X0 X1 hb0 hw0
 refine(HC.out _ HB0.out).mono ?_
 rintro e w2 ⟨⟨s2,p2,n2,e2,t2,q2,m2,d2,rfl,hq2⟩,hb2⟩
 have HQ:=Kh hq2
 have HR:=Kh (bk HX1 hb2)
 have HB:=bt HB0 hb2
 clear hq2 hb2 HX1 HB0 HC
 have r0:=HR.out.at_ 0 rfl
 have r1:=HR.out.at_ 1 rfl
 have r2:=HR.out.at_ 2 rfl
 have r3:=HR.out.at_ 3 rfl
 have f0:=HR.out.free_ 0
 have f1:=HR.out.free_ 1
 have f2:=HR.out.free_ 2
 have f3:=HR.out.free_ 3
 obtain⟨w9,hw9⟩:∃ w9,(((w2.setCell ⟨w.heap.size+1,0,none⟩ (.bool s2)).setCell ⟨w.heap.size+1,1,none⟩ (.slice p2 n2 e2)).setCell ⟨w.heap.size+1,2,none⟩ (.bool t2)).setCell ⟨w.heap.size+1,3,none⟩ (.slice q2 m2 d2)=w9:=⟨_,rfl⟩
 obtain⟨E0,E1,E2,E3,hq9⟩:=rat_put HR.out HQ.out hw9
 have hb9:Below w.heap.size w w9:=by rw[← hw9];exact below_putR HB.out (by omega) _ _ _ _
 have HW9:=Kh hw9
 have HE9:=Kh (And.intro E0 (And.intro E1 (And.intro E2 E3)))
 have HQ9:=Kh hq9
 have HB9:=Kh hb9
 clear E0 E1 E2 E3 hq9 hb9 hw9 HQ HB HR
 go_wp2
 try rw[HW9.out]
 obtain⟨E0,E1,E2,E3⟩:=HE9.out
 try simp only[Exit.inBlock,Exit.then]
 refine bodyPost_ret (by simp[results,Tryz.results80,go_sem,E0,E1,E2,E3];try rfl) rfl ?_
 exact⟨⟨s2,p2,n2,e2,t2,q2,m2,d2,rfl,HQ9.out⟩,HB9.out⟩
theorem c_qOf (z:Int) (w:World) (h1:-4611686018427387904≤z) (h2:z≤4611686018427387904):
  Calls Tryz.prog 49 #[.int .i64 z] w fun e w'=>RetQ w' e (z:Rat)∧Below w.heap.size w w':=by
 have HC:=Kh (fun w1=>c_Of z w1 h1 h2)
 have HO:=Kh (fun w1=>c_Of 1 w1 (by omega) (by omega))
 clear h1 h2
 go_enter Tryz.func49,Tryz.ntmps49
 go_wp2_with fail
 obtain⟨w0,hw0,X0,hb0⟩:=bx1 w #[.bool false,.slice none 0 0,.bool false,.slice none 0 0] 86
 rw[hw0]
 have HX0:=Kh X0
 have HB0:=Kh hb0
 clear X0 hb0 hw0
 refine(HC.out _).mono ?_
 rintro e w1 ⟨⟨s2,p2,n2,e2,rfl,hz2⟩,hb1⟩
 have HZ2:=Kh hz2
 have HB1:=bt HB0 hb1
 replace HX0:=Kh (bk HX0 hb1)
 clear hz2 hb1 HC
 go_wp2_with fail
 refine(HO.out _).mono ?_
 rintro e w2 ⟨⟨t2,q2,m2,d2,rfl,hz3⟩,hb2⟩
 have HQ:=Kh (show Qs w2 s2 p2 n2 e2 t2 q2 m2 d2 (z:Rat)from⟨HZ2.out.keep hb2,hz3⟩)
 have HR:=Kh (bk HX0 hb2)
 have HB:=bt HB1 hb2
 clear hz3 hb2 HX0 HB1 HZ2 HO HB0
 have r0:=HR.out.at_ 0 rfl
 have r1:=HR.out.at_ 1 rfl
 have r2:=HR.out.at_ 2 rfl
 have r3:=HR.out.at_ 3 rfl
 have f0:=HR.out.free_ 0
 have f1:=HR.out.free_ 1
 have f2:=HR.out.free_ 2
 have f3:=HR.out.free_ 3
 obtain⟨w9,hw9⟩:∃ w9,(((w2.setCell ⟨w.heap.size,0,none⟩ (.bool s2)).setCell ⟨w.heap.size,1,none⟩ (.slice p2 n2 e2)).setCell ⟨w.heap.size,2,none⟩ (.bool t2)).setCell ⟨w.heap.size,3,none⟩ (.slice q2 m2 d2)=w9:=⟨_,rfl⟩
 obtain⟨E0,E1,E2,E3,hq9⟩:=rat_put HR.out HQ.out hw9
 have hb9:Below w.heap.size w w9:=by rw[← hw9];exact below_putR HB.out (by omega) _ _ _ _
 have HW9:=Kh hw9
 have HE9:=Kh (And.intro E0 (And.intro E1 (And.intro E2 E3)))
 have HQ9:=Kh hq9
 have HB9:=Kh hb9
 clear E0 E1 E2 E3 hq9 hb9 hw9 HQ HB HR
 go_wp2
 try rw[HW9.out]
 obtain⟨E0,E1,E2,E3⟩:=HE9.out
 try simp only[Exit.inBlock,Exit.then]
 refine bodyPost_ret (by simp[results,Tryz.results49,go_sem,E0,E1,E2,E3];try rfl) rfl ?_
 exact⟨⟨s2,p2,n2,e2,t2,q2,m2,d2,rfl,HQ9.out⟩,HB9.out⟩
theorem c_qMul (s:Bool) (p:Option Addr) (n c:Nat) (x:Int) (t:Bool) (q:Option Addr) (m d:Nat) (y:Int) (s':Bool) (p':Option Addr) (n' c':Nat) (x':Int) (t':Bool) (q':Option Addr) (m' d':Nat) (y':Int) (w:World) (h1:Zr w s p n c x) (h2:Zr w t q m d y) (h3:Zr w s' p' n' c' x') (h4:Zr w t' q' m' d' y') (hn:n≤2199023255500) (hm:m≤2199023255500) (hn':n'≤2199023255500) (hm':m'≤2199023255500):
  Calls Tryz.prog 44 #[.agg #[.bool s,.slice p n c,.bool t,.slice q m d],.agg #[.bool s',.slice p' n' c',.bool t',.slice q' m' d']] w fun e w'=>RetQ w' e (Rat.divInt x y*Rat.divInt x' y')∧Below w.heap.size w w':=by
 have HV:=Kh (Rat.divInt_mul_divInt x x' (d₁:=y) (d₂:=y'))
 have HS1:=Kh (show nd (x*x').natAbs≤4398046511100 by rw[Int.natAbs_mul];have:=nd_mul x.natAbs x'.natAbs;have:=h1.size;have:=h3.size;omega)
 have HS2:=Kh (show nd (y*y').natAbs≤4398046511100 by rw[Int.natAbs_mul];have:=nd_mul y.natAbs y'.natAbs;have:=h2.size;have:=h4.size;omega)
 have HC1:=Kh (fun w1 (hb:Below w.heap.size w w1)=>c_Mul s p n c x s' p' n' c' x' w1 (h1.keep hb) (h3.keep hb) (by omega) (by omega))
 have HC2:=Kh (fun w1 (hb:Below w.heap.size w w1)=>c_Mul t q m d y t' q' m' d' y' w1 (h2.keep hb) (h4.keep hb) (by omega) (by omega))
 clear h1 h2 h3 h4
 go_enter Tryz.func44,Tryz.ntmps44
 go_upto_region 1 with(fail)
 obtain⟨w0,hw0,X0,X1,X2,hb0⟩:=bx3 w #[.bool s,.slice p n c,.bool t,.slice q m d] 86 #[.bool s',.slice p' n' c',.bool t',.slice q' m' d'] 86 #[.bool false,.slice none 0 0,.bool false,.slice none 0 0] 86
 rw[hw0]
 have hs0:w.heap.size≤w0.heap.size:=hb0.size
 clear hw0
 have M1:True:=trivial
 have T2:=Sts.of X2 (by intro v hv;simp at hv;rcases hv with rfl|rfl|rfl|rfl <;> first|exact NotInt.bool _|exact NotInt.slice _ _ _)
 have hS0:=S8_4_next (Below.refl _ w0).drew ⟨X0.c0,X0.c1,X0.c2,X0.c3,X1.c0,X1.c1,X1.c2,X1.c3,X2.so 0,X2.free_ 0,T2,X2.so 1,X2.free_ 1,T2,X2.so 2,X2.free_ 2,T2,X2.so 3,X2.free_ 3,T2,hb0,hs0⟩
 clear X0 X1 X2
 go_region_held3 (fun w1=>w1.cell? ⟨w.heap.size,0,none⟩=some (.bool s)∧w1.cell? ⟨w.heap.size,1,none⟩=some (.slice p n c)∧w1.cell? ⟨w.heap.size,2,none⟩=some (.bool t)∧w1.cell? ⟨w.heap.size,3,none⟩=some (.slice q m d)∧w1.cell? ⟨w.heap.size+1,0,none⟩=some (.bool s')∧w1.cell? ⟨w.heap.size+1,1,none⟩=some (.slice p' n' c')∧w1.cell? ⟨w.heap.size+1,2,none⟩=some (.bool t')∧w1.cell? ⟨w.heap.size+1,3,none⟩=some (.slice q' m' d')∧w1.cell? ⟨w.heap.size+1+1,0,none⟩=some (cellOf w1 ⟨w.heap.size+1+1,0,none⟩)∧w1.frozen? ⟨w.heap.size+1+1,0,none⟩=false∧Sts w1 (w.heap.size+1+1)∧w1.cell? ⟨w.heap.size+1+1,1,none⟩=some (cellOf w1 ⟨w.heap.size+1+1,1,none⟩)∧w1.frozen? ⟨w.heap.size+1+1,1,none⟩=false∧Sts w1 (w.heap.size+1+1)∧w1.cell? ⟨w.heap.size+1+1,2,none⟩=some (cellOf w1 ⟨w.heap.size+1+1,2,none⟩)∧w1.frozen? ⟨w.heap.size+1+1,2,none⟩=false∧Sts w1 (w.heap.size+1+1)∧w1.cell? ⟨w.heap.size+1+1,3,none⟩=some (cellOf w1 ⟨w.heap.size+1+1,3,none⟩)∧w1.frozen? ⟨w.heap.size+1+1,3,none⟩=false∧Sts w1 (w.heap.size+1+1)∧Below w.heap.size w w1∧w.heap.size≤w1.heap.size)
  (first|with_reducible exact hS0 |(refine S8_4_next (by with_reducible assumption) ?_;assumption) |(refine S8_4_put ?_ ?_ ?_ ?_ ?_ ?_ ?_ ?_ ?_ ?_ ?_ ?_ ?_ ?_ ?_ ?_ ?_ ?_ ?_ ?_ ?_ ?_ ?_ ?_ ?_ ?_ ?_ ?_ ?_ ?_ ?_ ?_ ?_ ?_ ?_ ?_ ?_ ?_ ?_ ?_ ?_ <;> first|assumption|exact NotInt.bool _|exact NotInt.slice _ _ _ |(dsimp only;omega) |(simp;done)))
  (first
   |(go_at_call 84;clear M1;refine(HC1.out _ (S8_4_below (by with_reducible assumption))).mono ?_;rintro e w2 ⟨⟨s2,p2,n2,e2,rfl,hz2⟩,hb2⟩;have HZ2:=Kh hz2;clear hz2)
   |(go_at_call 84;refine(HC2.out _ (S8_4_below (by with_reducible assumption))).mono ?_;rintro e w3 ⟨⟨s3,p3,n3,e3,rfl,hz3⟩,hb3⟩;have HOV:=Kh (c_over s2 p2 n2 e2 (x*x') s3 p3 n3 e3 (y*y') w3 (HZ2.out.keep hb3).raw hz3.raw (by rw[← HZ2.out.2.1];exact HS1.out) (by rw[← hz3.2.1];exact HS2.out));clear hz3 hb2 HZ2)
   |(go_at_call 85;refine HOV.out.mono ?_;rintro e w4 ⟨⟨s4,p4,n4,e4,t4,q4,m4,d4,rfl,hq4⟩,hb4⟩;clear hb3;obtain⟨⟨hR0,hT⟩,⟨hR1,_⟩,⟨hR2,_⟩,⟨hR3,_⟩⟩:=S8_4_end hb4 (by with_reducible assumption);have hq5:=Kh (hq4.put4 hT (.bool s4) (.slice p4 n4 e4) (.bool t4) (.slice q4 m4 d4) (NotInt.bool _) (NotInt.slice _ _ _) (NotInt.bool _));clear hq4 hT))
 go_wp2
 try simp only[Exit.inBlock,Exit.then]
 refine bodyPost_ret (by simp[results,Tryz.results44,go_sem,hR0,hR1,hR2,hR3];try rfl) rfl ?_
 exact⟨⟨s4,p4,n4,e4,t4,q4,m4,d4,rfl,HV.out▸hq5.out⟩,S8_4_below (by assumption)⟩
end Go.Proofs.YtenlbhlllgppmaaGreatDoor
