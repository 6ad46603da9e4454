/- Contract of halfplaneref01.Gcd. -/
import Derived.Test.YtijgdhijdfgpfaaGreatDoorT21
set_option maxRecDepth 100000
set_option maxHeartbeats 8000000
namespace Go.Proofs.YtijgdhijdfgpfaaGreatDoor
open Go.RowKit
theorem c_rGcd (s:Bool) (p:Option Addr) (n c:Nat) (x:Int) (t:Bool) (q:Option Addr) (m d:Nat) (y:Int) (w:World) (h:Zr w s p n c x) (h':Zr w t q m d y) (hn:n≤4398046511000) (hm:m≤4398046511000):
  Calls Tryz.prog 130 #[.agg #[.bool s,.slice p n c],.agg #[.bool t,.slice q m d]] w fun e w'=>RetZ w' e (Int.gcd x y:Nat)∧Below w.heap.size w w':=by
 have HX:=Kh (Nat.le_trans h.size hn)
 have HY:=Kh (Nat.le_trans h'.size hm)
 obtain⟨u,hu⟩:∃ u,x.natAbs=u:=⟨_,rfl⟩
 obtain⟨v,hv⟩:∃ v,y.natAbs=v:=⟨_,rfl⟩
 obtain⟨G,hG⟩:∃ G,Int.gcd x y=G:=⟨_,rfl⟩
 have hGuv:Nat.gcd u v=G:=by rw[← hG,← hu,← hv];rfl
 rw[hG]
 have HN1:=Kh (fun w1 (hb:Below w.heap.size w w1)=>c_rAbs s p n c x w1 (h.keep hb) (by omega))
 have HN2:=Kh (fun w1 (hb:Below w.heap.size w w1)=>c_rAbs t q m d y w1 (h'.keep hb) (by omega))
 rw[hu]at HX HN1
 rw[hv]at HY HN2
 have HG:=Kh hGuv
 clear h h' hu hv hG hGuv
 go_enter Tryz.func130,Tryz.ntmps130
 go_upto_region 1 with(fail)
 obtain⟨wc,hwc,X0,X1,X2,hb0⟩:=bx3 w #[.bool s,.slice p n c] 65 #[.bool t,.slice q m d] 65 #[.bool false,.slice none 0 0] 65
 rw[hwc]
 have hs0:w.heap.size≤wc.heap.size:=hb0.size
 clear hwc
 have HBC:=Kh hb0
 have HR0:=Kh X2
 have hlt:w.heap.size+1+1<wc.heap.size:=X2.lt
 clear X2
 go_cut [5,6]from 11 to 14 (fun v5 v6 wd=>∃ g5 g6,v5=.pointer (some ⟨g5,0,none⟩)∧v6=.pointer (some ⟨g6,0,none⟩)∧g5≠g6∧wc.heap.size≤g5∧wc.heap.size≤g6∧TwoZ wd g5 g6 (u:Int) (v:Int)∧Below wc.heap.size wc wd)
 case first=>
  have hS1:wc.cell? ⟨w.heap.size,0,none⟩=some (.bool s)∧wc.cell? ⟨w.heap.size,1,none⟩=some (.slice p n c)∧wc.cell? ⟨w.heap.size+1,0,none⟩=some (.bool t)∧wc.cell? ⟨w.heap.size+1,1,none⟩=some (.slice q m d)∧Below wc.heap.size wc wc∧wc.heap.size≤wc.heap.size:=⟨X0.at_ 0 rfl,X0.at_ 1 rfl,X1.at_ 0 rfl,X1.at_ 1 rfl,Below.refl _ _,Nat.le_refl _⟩
  have hS0:wc.drew.cell? ⟨w.heap.size,0,none⟩=some (.bool s)∧wc.drew.cell? ⟨w.heap.size,1,none⟩=some (.slice p n c)∧wc.drew.cell? ⟨w.heap.size+1,0,none⟩=some (.bool t)∧wc.drew.cell? ⟨w.heap.size+1,1,none⟩=some (.slice q m d)∧Below wc.heap.size wc wc.drew∧wc.heap.size≤wc.drew.heap.size:=S4_0_next (Below.refl _ wc).drew hS1
  clear X0 X1
  have M1:True:=trivial
  go_region_held3 (fun w1=>w1.cell? ⟨w.heap.size,0,none⟩=some (.bool s)∧w1.cell? ⟨w.heap.size,1,none⟩=some (.slice p n c)∧w1.cell? ⟨w.heap.size+1,0,none⟩=some (.bool t)∧w1.cell? ⟨w.heap.size+1,1,none⟩=some (.slice q m d)∧Below wc.heap.size wc w1∧wc.heap.size≤w1.heap.size)
   (first|with_reducible exact hS0 |(refine S4_0_next (by with_reducible assumption) ?_;assumption)|exact S4_0_next (by go_grown) hS1)
   (first
    |(go_at_call 157;clear M1;refine(HN1.out _ (HBC.out.trans ((S4_0_below (by with_reducible assumption)).mono HBC.out.size))).mono ?_;rintro e w2 ⟨⟨s2,p2,n2,e2,rfl,hz2⟩,hb2⟩;have HA2:=Kh hz2;have hz2s:wc.heap.size≤w2.heap.size:=Nat.le_trans (S4_0_size (by with_reducible assumption)) (Below.size hb2);have hw2:Below wc.heap.size wc w2:=Below.trans (S4_0_below (by with_reducible assumption)) (Below.mono hb2 (S4_0_size (by with_reducible assumption)));(first|have fa:=fr2 (B:=wc.heap.size) (W:=wc.drew) (g:=wc.heap.size) rfl (Nat.le_refl _) hb2|have fa:=fr1 (B:=wc.heap.size) (W:=wc.drew) (g:=wc.heap.size) rfl (Nat.le_refl _) hb2|skip);(try have fb:=fr1 (B:=wc.heap.size) (W:=wc.drew.alloc (.cells #[.bool false,.slice none 0 0] 65)) (g:=wc.heap.size+1) (by simp) (by omega) hb2);clear hz2)
    |(go_at_call 157;refine(HN2.out _ (HBC.out.trans ((S4_0_below (by with_reducible assumption)).mono HBC.out.size))).mono ?_;rintro e w3 ⟨⟨s3,p3,n3,e3,rfl,hz3⟩,hb3⟩;have HA3:=Kh (show Zs w3 s2 p2 n2 e2 (u:Int)∧Zs w3 s3 p3 n3 e3 (v:Int)from⟨by first|exact HA2.out.keep hb3|exact(HA2.out.keep ((Below.refl _ _).alloc (Nat.le_refl _) _)).keep hb3|exact((HA2.out.keep ((Below.refl _ _).alloc (Nat.le_refl _) _)).keep ((Below.refl _ _).alloc (Nat.le_refl _) _)).keep hb3,hz3⟩);have hz3s:wc.heap.size≤w3.heap.size:=Nat.le_trans (S4_0_size (by with_reducible assumption)) (Below.size hb3);have hw3:Below wc.heap.size wc w3:=Below.trans (S4_0_below (by with_reducible assumption)) (Below.mono hb3 (S4_0_size (by with_reducible assumption)));(first|have ga:=frn0 fa hb3|have ga:=frn1 fa hb3|skip);(try have gb:=frn0 fb hb3);(first|have gc:=fr2 (B:=wc.heap.size) (W:=w2) (g:=w2.heap.size) rfl hz2s hb3|have gc:=fr1 (B:=wc.heap.size) (W:=w2) (g:=w2.heap.size) rfl hz2s hb3|skip);(try have gd:=fr1 (B:=wc.heap.size) (W:=w2.alloc (.cells #[.bool false,.slice none 0 0] 65)) (g:=w2.heap.size+1) (by simp) (by omega) hb3);(try have ha1:=fun o=>fr_al ga o);(try have hb1:=fun o=>fr_al gb o);(try have hc1:=fun o=>fr_al gc o);(try have hd1:=fun o=>fr_al gd o);have hnn:=fr_new hz3s;(try have qga:=And.intro (Nat.ne_of_lt ga.2.2.2.2.2.lt) (Nat.ne_of_gt ga.2.2.2.2.2.lt));(try have qgb:=And.intro (Nat.ne_of_lt gb.2.2.2.2.2.lt) (Nat.ne_of_gt gb.2.2.2.2.2.lt));(try have qgc:=And.intro (Nat.ne_of_lt gc.2.2.2.2.2.lt) (Nat.ne_of_gt gc.2.2.2.2.2.lt));(try have qgd:=And.intro (Nat.ne_of_lt gd.2.2.2.2.2.lt) (Nat.ne_of_gt gd.2.2.2.2.2.lt));(try have qfa:=And.intro (Nat.ne_of_lt fa.2.2.2.2.2.lt) (Nat.ne_of_gt fa.2.2.2.2.2.lt));(try have qfb:=And.intro (Nat.ne_of_lt fb.2.2.2.2.2.lt) (Nat.ne_of_gt fb.2.2.2.2.2.lt));(try have hb2s:=Below.size hb2);(try have hb3s:=Below.size hb3);clear hz3 HA2))
  all_goals go_wp2
  all_goals go_meet
  all_goals refine⟨_,_,rfl,rfl,?_,?_,?_,?_,?_⟩
  all_goals first
   |(with_reducible exact two_new12 HA3.out)
   |(with_reducible exact two_new21 HA3.out)
   |(with_reducible exact two_half ga.2.2.2.2.2 HA3.out)
   |(with_reducible exact two_half gb.2.2.2.2.2 HA3.out)
   |(with_reducible exact two_half gc.2.2.2.2.2 HA3.out)
   |(with_reducible exact two_half gd.2.2.2.2.2 HA3.out)
   |(with_reducible exact two_top ga.2.2.2.2.2 HA3.out)
   |(with_reducible exact two_top gb.2.2.2.2.2 HA3.out)
   |(with_reducible exact two_top gc.2.2.2.2.2 HA3.out)
   |(with_reducible exact two_top gd.2.2.2.2.2 HA3.out)
   |(with_reducible exact two_put (by omega) ga.2.2.2.2.2 gb.2.2.2.2.2 HA3.out.1 HA3.out.2)
   |(with_reducible exact two_put (by omega) ga.2.2.2.2.2 gc.2.2.2.2.2 HA3.out.1 HA3.out.2)
   |(with_reducible exact two_put (by omega) ga.2.2.2.2.2 gd.2.2.2.2.2 HA3.out.1 HA3.out.2)
   |(with_reducible exact two_put (by omega) gb.2.2.2.2.2 ga.2.2.2.2.2 HA3.out.1 HA3.out.2)
   |(with_reducible exact two_put (by omega) gb.2.2.2.2.2 gc.2.2.2.2.2 HA3.out.1 HA3.out.2)
   |(with_reducible exact two_put (by omega) gb.2.2.2.2.2 gd.2.2.2.2.2 HA3.out.1 HA3.out.2)
   |(with_reducible exact two_put (by omega) gc.2.2.2.2.2 ga.2.2.2.2.2 HA3.out.1 HA3.out.2)
   |(with_reducible exact two_put (by omega) gc.2.2.2.2.2 gb.2.2.2.2.2 HA3.out.1 HA3.out.2)
   |(with_reducible exact two_put (by omega) gc.2.2.2.2.2 gd.2.2.2.2.2 HA3.out.1 HA3.out.2)
   |(with_reducible exact two_put (by omega) gd.2.2.2.2.2 ga.2.2.2.2.2 HA3.out.1 HA3.out.2)
   |(with_reducible exact two_put (by omega) gd.2.2.2.2.2 gb.2.2.2.2.2 HA3.out.1 HA3.out.2)
   |(with_reducible exact two_put (by omega) gd.2.2.2.2.2 gc.2.2.2.2.2 HA3.out.1 HA3.out.2)
   | omega
   | go_grown
 case rest=>
  obtain⟨gx,gy,rfl,rfl,hne,hg5,hg6,⟨s1,p1,n1,c1,t1,q1,m1,d1,XA,XB,zx,zy⟩,hbd⟩:=hcut
  have hlt5:w.heap.size+1+1<gx:=by omega
  have hlt6:w.heap.size+1+1<gy:=by omega
  have XR:=bk HR0 hbd
  have hbw:=HBC.out.trans (hbd.mono HBC.out.size)
  clear HN1 HN2 X0 X1 hb0 hs0 HBC HR0
  have a1:wc.cell? ⟨gx,1,none⟩=some (.slice p1 n1 c1):=XA.at_ 1 rfl
  have b1:wc.cell? ⟨gy,1,none⟩=some (.slice q1 m1 d1):=XB.at_ 1 rfl
  have hnu:nd u=n1:=zx.2.1
  have hnv:nd v=m1:=zy.2.1
  by_cases hsm:n1≤2∧m1≤2
  ·obtain⟨hs1,hs2⟩:=hsm
   have hs1i:(n1:Int)≤2:=by omega
   have hs2i:(m1:Int)≤2:=by omega
   have hd1:Dg wc p1 c1 n1 (dg u):=by have h1:=zx.2.2;unfold Nm at h1;rw[Int.natAbs_natCast,hnu]at h1;exact h1
   have hd2:Dg wc q1 d1 m1 (dg v):=by have h1:=zy.2.2;unfold Nm at h1;rw[Int.natAbs_natCast,hnv]at h1;exact h1
   have hW1:=fun k=>c_rword p1 c1 n1 (dg u) (wc.drewN k) (hd1.keep (below_drewN' (Below.refl _ _) k)) hs1
   have hW2:=fun k=>c_rword q1 d1 m1 (dg v) (wc.drewN k) (hd2.keep (below_drewN' (Below.refl _ _) k)) hs2
   rw[show vf (dg u) n1=u by rw[← hnu,vf_nd]]at hW1
   rw[show vf (dg v) m1=v by rw[← hnv,vf_nd]]at hW2
   have hul:u<18446744073709551616:=nd_le_two (by omega)
   have hvl:v<18446744073709551616:=nd_le_two (by omega)
   have HW1:=Kh hW1
   have HW2:=Kh hW2
   have HUV:=Kh (And.intro hul hvl)
   have HXR:=Kh XR
   have HBW:=Kh hbw
   clear hW1 hW2 hul hvl XA XB XR hbw zx zy hnu hnv hd1 hd2 HX HY hbd
   go_wp2
   go_quiet (first|with_reducible exact Calls.quiet_of_same (HW1.out _)|with_reducible exact Calls.quiet_of_same (HW2.out _))
   go_wp2
   go_loopw [7,8] (fun v7 v8 wi=>∃ x y:Nat,v7=.int .u64 x∧v8=.int .u64 y∧Nat.gcd x y=G∧RowKit.Hid (x<18446744073709551616∧y<18446744073709551616)∧∃ k,wi=wc.drewN k) (fun _ v8 _=>(intOf v8).toNat)
   case atStart=>exact⟨u,v,rfl,rfl,HG.out,Kh HUV.out,_,rfl⟩
   case round=>
    clear HG HUV HW1 HW2
    obtain⟨x,y,rfl,rfl,hg,HXY,kr,rfl⟩:=hrel
    by_cases hy0:y=0
    ·subst hy0
     rw[Nat.gcd_zero_right]at hg
     subst hg
     have HW:=Kh (fun w=>c_rsplit x w HXY.out.1)
     clear a1 b1
     go_wp2_with fail
     refine(HW.out _).mono ?_
     rintro e w4 ⟨⟨p4,c4,rfl,hm4⟩,hb4⟩
     obtain⟨n4,hn4⟩:∃ n4,nd x=n4:=⟨_,rfl⟩
     have hd4:Dg w4 p4 c4 n4 (dg x):=by unfold Nm at hm4;rw[hn4]at hm4;exact hm4
     have hS:=c_rsigned false p4 c4 n4 (dg x) w4 hd4 (by rw[← hn4];exact Nat.le_trans (nd_le.2 HXY.out.1) (by decide:(2:Nat)≤_))
     rw[show vf (dg x) n4=x by rw[← hn4,vf_nd],sg_false]at hS
     rw[hn4]
     have HS:=Kh hS
     have HB4:=Kh ((below_drewN' HBW.out kr).trans (hb4.mono (by simpa using HBW.out.size)))
     have HV4:=Kh (Var2.next (Var2.of (HXR.out.drewN_ kr) (NotInt.bool _) (NotInt.slice _ _ _)) hb4)
     clear hm4 hb4 hd4 hS HW HXY hn4
     go_wp2_with fail
     refine HS.out.mono ?_
     rintro e w2 ⟨⟨s2,p2,n2,c2,rfl,hz2⟩,hb2⟩
     have HVR:=Kh (HV4.out.next hb2)
     have HB2:=bt HB4 hb2
     clear hb2 HS HB4 HV4
     obtain⟨⟨u0,hu0⟩,⟨u1,hu1⟩⟩:=HVR.out.cells
     have f0:=HVR.out.free 0
     have f1:=HVR.out.free 1
     have hz3:=hz2.put2 HVR.out.sts 0 1 (.bool s2) (.slice p2 n2 c2) (NotInt.bool _)
     have hb3:Below w.heap.size w ((w2.setCell ⟨w.heap.size+1+1,0,none⟩ (.bool s2)).setCell ⟨w.heap.size+1+1,1,none⟩ (.slice p2 n2 c2)):=(HB2.out.setCell (by show w.heap.size≤w.heap.size+1+1;omega) _).setCell (by show w.heap.size≤w.heap.size+1+1;omega) _
     have HZ3:=Kh hz3
     have HB3:=Kh hb3
     clear hz2 hz3 hb3
     go_wp2
     try simp only[Exit.inBlock,Exit.then]
     refine bodyPost_ret (by simp[results,Tryz.results130,go_sem,hu0,hu1];try rfl) rfl ?_
     exact⟨⟨s2,p2,n2,c2,rfl,HZ3.out⟩,HB3.out⟩
    ·obtain⟨r,hr⟩:∃ r,x % y=r:=⟨_,rfl⟩
     have hrl:r<y:=by rw[← hr];exact Nat.mod_lt _ (by omega)
     have hrt:Int.tmod (x:Int) (y:Int)=(r:Nat):=by rw[Int.tmod_eq_emod_of_nonneg (by omega),← hr];exact(Int.natCast_emod _ _).symm
     have hrt2:(x:Int) % (y:Int)=(r:Nat):=by rw[← hr];exact(Int.natCast_emod _ _).symm
     have hnew:Nat.gcd y r=G:=by rw[← hg,← hr,Nat.gcd_comm x y,Nat.gcd_rec y x,Nat.gcd_comm]
     have HN:=Kh hnew
     have hyb:((y:Int) != 0)=true:=by rw[bne_iff_ne];omega
     have hy1:(y:Int)≠0:=by omega
     have hy2:(0:Int)<(y:Int):=by omega
     have HRL:=Kh hrl
     clear hnew hr hg hrl a1 b1
     go_wp2
     go_quiet (fail)
     go_wp2
     go_roundw
     case rel=>exact⟨y,r,rfl,rfl,HN.out,Kh ⟨HXY.out.2,by have:=HXY.out.2;have:=HRL.out;omega⟩,_,by first|rfl|rw[dr2]⟩
     case measure=>simp[intOf];exact HRL.out
  ·have HXA:=Kh XA
   have HXB:=Kh XB
   have HXR:=Kh XR
   have HBW:=Kh hbw
   have HZX:=Kh zx
   have HZY:=Kh zy
   clear XA XB XR hbw zx zy hbd
   go_upto_block 2 with fail
   all_goals clear hsm hnu hnv a1 b1
   all_goals go_step
   all_goals
    go_loopg [] v (fun b wr=>∃ a:Nat,Nat.gcd a b=G∧nd a≤4398046511000∧nd b≤4398046511000∧TwoZ wr gx gy (a:Int) (b:Int)∧Blk wr (w.heap.size+1+1) 65 #[.bool false,.slice none 0 0]∧Below w.heap.size w wr)
    case atStart=>exact⟨u,HG.out,HX.out,HY.out,⟨_,_,_,_,_,_,_,_,HXA.out,HXB.out,HZX.out,HZY.out⟩,HXR.out,HBW.out⟩
    case round=>
     clear HXA HXB HXR HBW HZX HZY HX HY HG
     obtain⟨a,hg,hal,hbl,⟨s5,p5,n5,c5,s6,p6,n6,c6,YA,YB,zx,zy⟩,YR,hb⟩:=hrel
     have hn6:nd gk=n6:=zy.2.1
     have b1:wr.cell? ⟨gy,1,none⟩=some (.slice p6 n6 c6):=YB.at_ 1 rfl
     have b0:wr.cell? ⟨gy,0,none⟩=some (.bool s6):=YB.at_ 0 rfl
     have a1:wr.cell? ⟨gx,1,none⟩=some (.slice p5 n5 c5):=YA.at_ 1 rfl
     have a0:wr.cell? ⟨gx,0,none⟩=some (.bool s5):=YA.at_ 0 rfl
     by_cases h0:n6=0
     ·subst h0
      obtain rfl:gk=0:=by
       have:=nd_pos (v:=gk);omega
      rw[Nat.gcd_zero_right]at hg
      subst hg
      have V:=Var2.of YR (NotInt.bool _) (NotInt.slice _ _ _)
      have HVR:=Kh V
      have HB2:=Kh hb
      have hz2:=zx
      clear zx zy YA YB YR hb V hn6
      obtain⟨⟨u0,hu0⟩,⟨u1,hu1⟩⟩:=HVR.out.cells
      have f0:=HVR.out.free 0
      have f1:=HVR.out.free 1
      have hz3:=hz2.put2 HVR.out.sts 0 1 (.bool s5) (.slice p5 n5 c5) (NotInt.bool _)
      have hb3:Below w.heap.size w ((wr.setCell ⟨w.heap.size+1+1,0,none⟩ (.bool s5)).setCell ⟨w.heap.size+1+1,1,none⟩ (.slice p5 n5 c5)):=(HB2.out.setCell (by show w.heap.size≤w.heap.size+1+1;omega) _).setCell (by show w.heap.size≤w.heap.size+1+1;omega) _
      have HZ3:=Kh hz3
      have HB3:=Kh hb3
      clear hz2 hz3 hb3
      go_wp2
      try simp only[Exit.inBlock,Exit.then]
      refine bodyPost_ret (by simp[results,Tryz.results130,go_sem,hu0,hu1];try rfl) rfl ?_
      exact⟨⟨s5,p5,n5,c5,rfl,HZ3.out⟩,HB3.out⟩
     ·have h0i:(0:Int)<(n6:Int):=by omega
      have hb0:gk≠0:=nd_pos.1 (by omega)
      have hE:=c_Euclid s5 p5 n5 c5 a s6 p6 n6 c6 gk wr zx.raw zy.raw (by rw[← zx.2.1];exact hal) (by omega) (by omega)
      have hrl:a % gk<gk:=Nat.mod_lt _ (by omega)
      have hmod:(a:Int) % (gk:Int)=((a % gk:Nat):Int):=(Int.natCast_emod _ _).symm
      have hnew:Nat.gcd gk (a % gk)=G:=by rw[← hg,Nat.gcd_comm a gk,Nat.gcd_rec gk a,Nat.gcd_comm]
      rw[hmod]at hE
      obtain⟨r,hr⟩:∃ r,a % gk=r:=⟨_,rfl⟩
      rw[hr]at hE hrl hnew
      have HE:=Kh hE
      have HYA:=Kh YA
      have HYB:=Kh YB
      have HYR:=Kh YR
      have HB:=Kh hb
      have HN:=Kh (And.intro hnew hrl)
      have HBL:=Kh hbl
      have HZB:=Kh zy
      clear hE YA YB YR hb hnew hrl hmod hr zx zy hg hal hbl hn6
      go_wp2_with fail
      refine HE.out.mono ?_
      rintro e w1 ⟨⟨s7,p7,n7,c7,s8,p8,n8,c8,rfl,hz7,hz8⟩,hb1⟩
      obtain⟨wa,hwa⟩:∃ wa,(w1.alloc (.cells #[.bool s7,.slice p7 n7 c7] 65)).alloc (.cells #[.bool s8,.slice p8 n8 c8] 65)=wa:=⟨_,rfl⟩
      obtain⟨Y0,Y1,hba⟩:=box2 w1 #[.bool s7,.slice p7 n7 c7] 65 #[.bool s8,.slice p8 n8 c8] 65
      rw[hwa]at Y0 Y1 hba
      obtain⟨gr,hgr⟩:∃ g,w1.heap.size+1=g:=⟨_,rfl⟩
      rw[hgr]at Y1
      have hgl:w1.heap.size<gr:=by omega
      have hba1:=hb1.trans (hba.mono hb1.size)
      have hgxl:=HYA.out.lt
      have hgyl:=HYB.out.lt
      have h1s:=hb1.size
      have ZA:=HYA.out.below_ hba1 hgxl
      have ZB:=HYB.out.below_ hba1 hgyl
      have ZR:=bk HYR hba1
      have e0:wa.cell? ⟨gx,0,none⟩=some (.bool s5):=ZA.at_ 0 rfl
      have e1:wa.cell? ⟨gx,1,none⟩=some (.slice p5 n5 c5):=ZA.at_ 1 rfl
      have e2:wa.cell? ⟨gy,0,none⟩=some (.bool s6):=ZB.at_ 0 rfl
      have e3:wa.cell? ⟨gy,1,none⟩=some (.slice p6 n6 c6):=ZB.at_ 1 rfl
      have e4:wa.cell? ⟨gr,0,none⟩=some (.bool s8):=Y1.at_ 0 rfl
      have e5:wa.cell? ⟨gr,1,none⟩=some (.slice p8 n8 c8):=Y1.at_ 1 rfl
      have f0:=ZA.free_ 0
      have f1:=ZA.free_ 1
      have f2:=ZB.free_ 0
      have f3:=ZB.free_ 1
      have hgx:gx≠gr:=by omega
      have hgy:gy≠gr:=by omega
      have HT:=Kh (two_put (s:=s6) (p:=p6) (n:=n6) (c:=c6) (t:=s8) (q:=p8) (m:=n8) (d:=c8) hne ZA ZB ((HZB.out.keep hba1)) (hz8.keep hba))
      have HR2:=Kh ((((ZR.far_ (p:=⟨gx,0,none⟩) (Nat.ne_of_lt hlt5) (.bool s6)).far_ (p:=⟨gx,1,none⟩) (Nat.ne_of_lt hlt5) (.slice p6 n6 c6)).far_ (p:=⟨gy,0,none⟩) (Nat.ne_of_lt hlt6) (.bool s8)).far_ (p:=⟨gy,1,none⟩) (Nat.ne_of_lt hlt6) (.slice p8 n8 c8))
      have HB2:=Kh (below_put4 (A:=gx) (B:=gy) (HB.out.trans (hba1.mono HB.out.size)) (by omega) (by omega) (.bool s6) (.slice p6 n6 c6) (.bool s8) (.slice p8 n8 c8))
      clear HE HYA HYB HYR HB HZB hz7 hz8 hb1 hba hba1 Y0 Y1 ZA ZB ZR a0 a1 b0 b1
      go_wp2
      try rw[hwa]
      try rw[hgr]
      clear hwa hgr
      go_wp2
      go_roundg r
      case measure=>exact HN.out.2
      case rel=>exact⟨gk,HN.out.1,HBL.out,Nat.le_trans (nd_mono (Nat.le_of_lt HN.out.2)) HBL.out,HT.out,HR2.out,HB2.out⟩
abbrev C2_0 (B:Nat) (w0 w:World) (a0 a1:Addr) (v0 v1:Value):Prop:=w.cell? a0=some v0∧w.cell? a1=some v1∧Below B w0 w∧B≤w.heap.size
theorem S2_0_next {B:Nat} {w0 w w':World} {a0 a1:Addr} {v0 v1:Value} (hb:Below w.heap.size w w') (h:C2_0 B w0 w a0 a1 v0 v1):C2_0 B w0 w' a0 a1 v0 v1:=SS.next (B:=B) (w0:=w0) (l:=[(a0,v0),(a1,v1)]) (m:=[]) hb h
theorem S2_0_below {B:Nat} {w0 w:World} {a0 a1:Addr} {v0 v1:Value} (h:C2_0 B w0 w a0 a1 v0 v1):Below B w0 w:=SS.below (B:=B) (w0:=w0) (l:=[(a0,v0),(a1,v1)]) (m:=[]) h
theorem sign_lt (y:Int):Int.sign y<0↔y<0:=by
 rcases Int.lt_trichotomy y 0 with h|h|h
 ·rw[Int.sign_eq_neg_one_of_neg h];omega
 ·subst h;simp
 ·rw[Int.sign_eq_one_of_pos h];omega
def sgcd (x y:Int):Int:=if y<0 then -(Int.gcd x y:Nat)else(Int.gcd x y:Nat)
theorem sgcd_ne {x y:Int} (hy:y≠0):sgcd x y≠0:=by
 have:Int.gcd x y≠0:=fun h=>hy (Int.gcd_eq_zero_iff.1 h).2
 unfold sgcd;split <;> omega
theorem sgcd_size {x y:Int} {K:Nat} (hy:y≠0) (h:nd y.natAbs≤K):nd (sgcd x y).natAbs≤K:=by
 have h1:(sgcd x y).natAbs=Int.gcd x y:=by unfold sgcd;split <;> omega
 rw[h1]
 exact Nat.le_trans (nd_mono (Nat.le_of_dvd (by omega) (Nat.gcd_dvd_right x.natAbs y.natAbs))) h
theorem sgcd_div {x y:Int} (hy:y≠0):(Rat.divInt x y).num=x / sgcd x y∧((Rat.divInt x y).den:Int)=y / sgcd x y:=by
 have hx:((Int.gcd x y:Nat):Int)∣x:=Int.gcd_dvd_left ..
 have hyd:((Int.gcd x y:Nat):Int)∣y:=Int.gcd_dvd_right ..
 unfold sgcd
 split
 ·have h:=over_neg x y
  have hp:0 < -y:=by omega
  have e:Int.gcd (-x) (-y)=Int.gcd x y:=by rw[Int.neg_gcd,Int.gcd_neg]
  have h1:=over_num (n:=-x) hp
  have h2:=over_den (n:=-x) hp
  rw[h,e]at h1 h2
  rw[h1,h2,Int.ediv_neg,Int.ediv_neg,Int.neg_ediv_of_dvd hx,Int.neg_ediv_of_dvd hyd]
  exact⟨rfl,rfl⟩
 ·have hp:0<y:=by omega
  exact⟨over_num hp,over_den hp⟩
theorem sgcd_one {x y:Int} (hy:y≠0) (h:sgcd x y=1):(Rat.divInt x y).num=x∧((Rat.divInt x y).den:Int)=y:=by
 have h1:=sgcd_div (x:=x) hy
 rw[h,Int.ediv_one,Int.ediv_one]at h1
 exact h1
theorem c_sOf (z:Int) (w:World) (h1:-4611686018427387904≤z) (h2:z≤4611686018427387904):
  Calls Tryz.prog 129 #[.int .i64 z] w fun e w'=>RetQ w' e (z:Rat)∧Below w.heap.size w w':=by
 have HC:=Kh (fun w1=>c_rOf z w1 h1 h2)
 have HO:=Kh (fun w1=>c_rOf 1 w1 (by omega) (by omega))
 clear h1 h2
 go_enter Tryz.func129,Tryz.ntmps129
 go_wp2_with fail
 obtain⟨w0,hw0,X0,hb0⟩:=bx1 w #[.bool false,.slice none 0 0,.bool false,.slice none 0 0] 67
 rw[hw0]
 have HX0:=Kh X0
 have HB0:=Kh hb0
 clear X0 hb0 hw0
 refine(HC.out _).mono ?_
 rintro e w1 ⟨⟨s2,p2,n2,e2,rfl,hz2⟩,hb1⟩
 have HZ2:=Kh hz2
 have HB1:=bt HB0 hb1
 replace HX0:=Kh (bk HX0 hb1)
 clear hz2 hb1 HC
 go_wp2_with fail
 refine(HO.out _).mono ?_
 rintro e w2 ⟨⟨t2,q2,m2,d2,rfl,hz3⟩,hb2⟩
 have HQ:=Kh (show Qs w2 s2 p2 n2 e2 t2 q2 m2 d2 (z:Rat)from⟨HZ2.out.keep hb2,hz3⟩)
 have HR:=Kh (bk HX0 hb2)
 have HB:=bt HB1 hb2
 clear hz3 hb2 HX0 HB1 HZ2 HO HB0
 have r0:=HR.out.at_ 0 rfl
 have r1:=HR.out.at_ 1 rfl
 have r2:=HR.out.at_ 2 rfl
 have r3:=HR.out.at_ 3 rfl
 have f0:=HR.out.free_ 0
 have f1:=HR.out.free_ 1
 have f2:=HR.out.free_ 2
 have f3:=HR.out.free_ 3
 obtain⟨w9,hw9⟩:∃ w9,(((w2.setCell ⟨w.heap.size,0,none⟩ (.bool s2)).setCell ⟨w.heap.size,1,none⟩ (.slice p2 n2 e2)).setCell ⟨w.heap.size,2,none⟩ (.bool t2)).setCell ⟨w.heap.size,3,none⟩ (.slice q2 m2 d2)=w9:=⟨_,rfl⟩
 obtain⟨E0,E1,E2,E3,hq9⟩:=rat_put HR.out HQ.out hw9
 have hb9:Below w.heap.size w w9:=by rw[← hw9];exact below_putR HB.out (by omega) _ _ _ _
 have HW9:=Kh hw9
 have HE9:=Kh (And.intro E0 (And.intro E1 (And.intro E2 E3)))
 have HQ9:=Kh hq9
 have HB9:=Kh hb9
 clear E0 E1 E2 E3 hq9 hb9 hw9 HQ HB HR
 go_wp2
 try rw[HW9.out]
 obtain⟨E0,E1,E2,E3⟩:=HE9.out
 try simp only[Exit.inBlock,Exit.then]
 refine bodyPost_ret (by simp[results,Tryz.results129,go_sem,E0,E1,E2,E3];try rfl) rfl ?_
 exact⟨⟨s2,p2,n2,e2,t2,q2,m2,d2,rfl,HQ9.out⟩,HB9.out⟩
theorem c_sOver (s:Bool) (p:Option Addr) (n c:Nat) (x:Int) (t:Bool) (q:Option Addr) (m d:Nat) (y:Int) (w:World) (h:Zr w s p n c x) (h':Zr w t q m d y) (hn:n≤4398046511000) (hm:m≤4398046511000):
  Calls Tryz.prog 106 #[.agg #[.bool s,.slice p n c],.agg #[.bool t,.slice q m d]] w fun e w'=>RetQ w' e (Rat.divInt x y)∧Below w.heap.size w w':=by
 obtain⟨g,hg⟩:∃ g,Int.sign y=g:=⟨_,rfl⟩
 have hSg:=fun w1 (hb:Below w.heap.size w w1)=>c_rSign t q m d y w1 (h'.keep hb) (by omega)
 rw[hg]at hSg
 have HS:=Kh hSg
 have HNX:=Kh (Nat.le_trans h.size hn)
 have HNY:=Kh (Nat.le_trans h'.size hm)
 have HGC:=Kh (fun w1 (hb:Below w.heap.size w w1)=>c_rGcd s p n c x t q m d y w1 (h.keep hb) (h'.keep hb) hn hm)
 have HN1:=Kh (fun w1 (hb:Below w.heap.size w w1)=>c_Norm s p n c x w1 (h.keep hb) (by omega))
 have HN2:=Kh (fun w1 (hb:Below w.heap.size w w1)=>c_Norm t q m d y w1 (h'.keep hb) (by omega))
 have HD1:=Kh (fun w1 (hb:Below w.heap.size w w1) s6 p6 n6 c6 G (hz:Zs w1 s6 p6 n6 c6 G) (hG:G≠0) (hl:n6≤4398046511000)=>c_rDivided s p n c x s6 p6 n6 c6 G w1 (h.keep hb) hz.raw hn hl hG)
 have HD2:=Kh (fun w1 (hb:Below w.heap.size w w1) s6 p6 n6 c6 G (hz:Zs w1 s6 p6 n6 c6 G) (hG:G≠0) (hl:n6≤4398046511000)=>c_rDivided t q m d y s6 p6 n6 c6 G w1 (h'.keep hb) hz.raw hm hl hG)
 clear h h' hSg
 go_enter Tryz.func106,Tryz.ntmps106
 go_wp2_with fail
 obtain⟨w0,hw0,X0,X1,X2,hb0⟩:=bx3 w #[.bool s,.slice p n c] 65 #[.bool t,.slice q m d] 65 #[.bool false,.slice none 0 0,.bool false,.slice none 0 0] 67
 rw[hw0]
 have hs0:w.heap.size≤w0.heap.size:=hb0.size
 clear hw0
 have HB0:=Kh hb0
 have HX0:=Kh X0
 have HX1:=Kh X1
 have HX2:=Kh X2
 clear X0 X1 X2 hb0 hs0
 refine(HS.out _ HB0.out).mono ?_
 rintro e w1 ⟨rfl,hb1⟩
 have HB1:=bt HB0 hb1
 have h01:=Kh hb1
 clear hb1
 by_cases hy:y=0
 ·obtain rfl:g=0:=by rw[← hg,hy];rfl
  have HG:=Kh (show((0:Int):Rat)=Rat.divInt x y by rw[hy,Rat.divInt_zero];rfl)
  have HO:=Kh (c_sOf 0 w1 (by omega) (by omega))
  clear hg hy HS HNX HNY HGC HN1 HN2 HD1 HD2
  go_wp2_with fail
  refine HO.out.mono ?_
  rintro e w2 ⟨⟨s2,p2,n2,e2,t2,q2,m2,d2,rfl,hq2⟩,hb2⟩
  have HQ:=Kh hq2
  have HR:=Kh ((HX2.out.below_ h01.out HX2.out.lt).below_ hb2 (Nat.lt_of_lt_of_le HX2.out.lt h01.out.size))
  have HB:=bt HB1 hb2
  clear hq2 hb2 HX0 HX1 HX2 HB0 HB1 h01 HO
  have r0:=HR.out.at_ 0 rfl
  have r1:=HR.out.at_ 1 rfl
  have r2:=HR.out.at_ 2 rfl
  have r3:=HR.out.at_ 3 rfl
  have f0:=HR.out.free_ 0
  have f1:=HR.out.free_ 1
  have f2:=HR.out.free_ 2
  have f3:=HR.out.free_ 3
  obtain⟨w9,hw9⟩:∃ w9,(((w2.setCell ⟨w.heap.size+1+1,0,none⟩ (.bool s2)).setCell ⟨w.heap.size+1+1,1,none⟩ (.slice p2 n2 e2)).setCell ⟨w.heap.size+1+1,2,none⟩ (.bool t2)).setCell ⟨w.heap.size+1+1,3,none⟩ (.slice q2 m2 d2)=w9:=⟨_,rfl⟩
  obtain⟨E0,E1,E2,E3,hq9⟩:=rat_put HR.out HQ.out hw9
  have hb9:Below w.heap.size w w9:=by rw[← hw9];exact below_putR HB.out (by omega) _ _ _ _
  have HW9:=Kh hw9
  have HE9:=Kh (And.intro E0 (And.intro E1 (And.intro E2 E3)))
  have HQ9:=Kh hq9
  have HB9:=Kh hb9
  clear E0 E1 E2 E3 hq9 hb9 hw9 HQ HB HR
  go_wp2
  try rw[HW9.out]
  obtain⟨E0,E1,E2,E3⟩:=HE9.out
  try simp only[Exit.inBlock,Exit.then]
  refine bodyPost_ret (by simp[results,Tryz.results106,go_sem,E0,E1,E2,E3];try rfl) rfl ?_
  exact⟨⟨s2,p2,n2,e2,t2,q2,m2,d2,rfl,HG.out▸HQ9.out⟩,HB9.out⟩
 ·have hg0:(g==(0:Int))=false:=beq_eq_false_iff_ne.2 (by rw[← hg];exact fun h=>hy (Int.sign_eq_zero_iff_zero.1 h))
  have hlt:(g<0)↔(y<0):=by rw[← hg];exact sign_lt y
  have HLT:=Kh hlt
  have HY:=Kh hy
  clear hg hlt hy
  have Y0:=HX0.out.below_ h01.out HX0.out.lt
  have Y1:=HX1.out.below_ h01.out HX1.out.lt
  have a0:w1.cell? ⟨w.heap.size,0,none⟩=some (.bool s):=Y0.at_ 0 rfl
  have a1:w1.cell? ⟨w.heap.size,1,none⟩=some (.slice p n c):=Y0.at_ 1 rfl
  have b0:w1.cell? ⟨w.heap.size+1,0,none⟩=some (.bool t):=Y1.at_ 0 rfl
  have b1:w1.cell? ⟨w.heap.size+1,1,none⟩=some (.slice q m d):=Y1.at_ 1 rfl
  clear Y0 Y1
  go_wp2_with fail
  refine(HGC.out _ HB1.out).mono ?_
  rintro e w2 ⟨⟨s6,p6,n6,c6,rfl,hz6⟩,hb2⟩
  go_upto_region 4 with(fail)
  obtain⟨wd,hwd,X5,hb5⟩:=bx1 w2 #[.bool s6,.slice p6 n6 c6] 65
  rw[hwd]
  obtain⟨g5,hg5⟩:∃ g5,w2.heap.size=g5:=⟨_,rfl⟩
  rw[hg5]at X5
  try rw[hg5]
  have hb05:=Kh (((h01.out.trans (hb2.mono h01.out.size))).trans (hb5.mono (Nat.le_trans h01.out.size hb2.size)))
  have HBD:=Kh (HB0.out.trans (hb05.out.mono HB0.out.size))
  have hRg:w.heap.size+1+1<g5:=by rw[← hg5];exact Nat.lt_of_lt_of_le HX2.out.lt (Nat.le_trans h01.out.size hb2.size)
  have hgd:g5<wd.heap.size:=X5.lt
  replace HX0:=Kh (HX0.out.below_ hb05.out HX0.out.lt)
  replace HX1:=Kh (HX1.out.below_ hb05.out HX1.out.lt)
  replace HX2:=Kh (HX2.out.below_ hb05.out HX2.out.lt)
  have HX5:=Kh X5
  have HZ6:=Kh (hz6.keep hb5)
  have hgl:nd (Int.gcd x y:Nat)≤4398046511000:=Nat.le_trans (nd_mono (Nat.le_of_dvd (by have:=HY.out;omega) (Nat.gcd_dvd_right x.natAbs y.natAbs))) HNY.out
  have hn6:n6≤4398046511000:=by rw[← hz6.2.1];exact hgl
  clear hz6 hb2 hb5 X5 hwd hg5 hb05 h01 HB0 HB1 HGC hgl a0 a1 b0 b1
  have b0:wd.cell? ⟨w.heap.size+1,0,none⟩=some (.bool t):=HX1.out.at_ 0 rfl
  have b1:wd.cell? ⟨w.heap.size+1,1,none⟩=some (.slice q m d):=HX1.out.at_ 1 rfl
  go_wp2_with fail
  refine(HS.out _ HBD.out).mono ?_
  rintro e w3 ⟨rfl,hb3⟩
  have hds:=hb3.size
  replace HX0:=Kh (bk HX0 hb3)
  replace HX1:=Kh (bk HX1 hb3)
  replace HX2:=Kh (bk HX2 hb3)
  replace HX5:=Kh (bk HX5 hb3)
  replace HZ6:=Kh (HZ6.out.keep hb3)
  replace HBD:=bt HBD hb3
  replace hgd:g5<w3.heap.size:=Nat.lt_of_lt_of_le hgd hds
  clear hb3 hds b0 b1
  go_upto_if 15 with(fail)
  obtain⟨gb,hgb⟩:∃ gb,decide (g<0)=gb:=⟨_,rfl⟩
  try rw[hgb]
  have HGB:=Kh hgb
  clear hgb
  go_cut []from 16 to 17 (fun we=>∃ s7 p7 n7 c7,Zs we s7 p7 n7 c7 (sgcd x y)∧Blk we g5 65 #[.bool s7,.slice p7 n7 c7]∧Below g5 w3 we∧w3.heap.size≤we.heap.size)
  case first=>
   cases gb with
   | true=>
    have hlt:g<0:=of_decide_eq_true HGB.out
    have HV:=Kh (show -((Int.gcd x y:Nat):Int)=sgcd x y by unfold sgcd;rw[if_pos (HLT.out.1 hlt)])
    have HNE:=Kh (c_rNeg s6 p6 n6 c6 _ w3 HZ6.out.raw (by omega))
    have X3:=HX5.out
    have a0:w3.cell? ⟨g5,0,none⟩=some (.bool s6):=X3.at_ 0 rfl
    have a1:w3.cell? ⟨g5,1,none⟩=some (.slice p6 n6 c6):=X3.at_ 1 rfl
    have HX3:=Kh X3
    clear X3 hlt
    go_wp2_with fail
    refine HNE.out.mono ?_
    rintro e w4 ⟨⟨s7,p7,n7,c7,rfl,hz7⟩,hb4⟩
    have X4:=bk HX3 hb4
    have e0:w4.cell? ⟨g5,0,none⟩=some (.bool s6):=X4.at_ 0 rfl
    have e1:w4.cell? ⟨g5,1,none⟩=some (.slice p6 n6 c6):=X4.at_ 1 rfl
    have f0:=X4.free_ 0
    have f1:=X4.free_ 1
    obtain⟨hX,hZ⟩:=one_put X4 hz7
    have HF:=Kh (And.intro hX hZ)
    have HBZ:=Kh ((hb4.mono (Nat.le_of_lt hgd)).setCell (p:=⟨g5,0,none⟩) (Nat.le_refl g5) (.bool s7) |>.setCell (p:=⟨g5,1,none⟩) (Nat.le_refl g5) (.slice p7 n7 c7))
    have HSZ:=Kh (show w3.heap.size≤((w4.setCell ⟨g5,0,none⟩ (.bool s7)).setCell ⟨g5,1,none⟩ (.slice p7 n7 c7)).heap.size by
     rw[World.size_setCell,World.size_setCell];exact hb4.size)
    clear hz7 hb4 X4 hX hZ a0 a1 HNE
    go_wp2
    go_meet
    case rel=>exact⟨s7,p7,n7,c7,HV.out▸HF.out.2,HF.out.1,HBZ.out,HSZ.out⟩
   | false=>
    have hlt:¬ g<0:=of_decide_eq_false HGB.out
    have HV:=Kh (show((Int.gcd x y:Nat):Int)=sgcd x y by unfold sgcd;rw[if_neg (fun h=>hlt (HLT.out.2 h))])
    clear hlt
    go_wp2
    go_meet
    case rel=>exact⟨s6,p6,n6,c6,HV.out▸HZ6.out,HX5.out,Below.refl _ _,Nat.le_refl _⟩
  case rest=>
   obtain⟨we,rfl⟩:∃ we:World,we=wc:=⟨_,rfl⟩
   obtain⟨s7,p7,n7,c7,hz7,X5,hbe,hse⟩:=hcut
   replace HX0:=Kh (HX0.out.below_ hbe (by omega))
   replace HX1:=Kh (HX1.out.below_ hbe (by omega))
   replace HX2:=Kh (HX2.out.below_ hbe (by omega))
   have HBE:=Kh ((HBD.out).trans (hbe.mono (by have:=HBD.out.size;omega)):Below w.heap.size w we)
   have hn7:n7≤4398046511000:=by rw[← hz7.2.1];exact sgcd_size HY.out HNY.out
   have HZ7:=Kh hz7
   have HX7:=Kh X5
   have HO1:=Kh (fun w1=>c_rOf 1 w1 (by omega) (by omega))
   clear HBD HX5 HZ6 hz7 hbe hse HS hgd
   obtain⟨b,hb⟩:∃ b,decide (sgcd x y=1)=b:=⟨_,rfl⟩
   have HSA:=Kh (fun w1 (hw:Below we.heap.size we w1) s8 p8 n8 c8 (hz:Zs w1 s8 p8 n8 c8 1)=>c_rSame s7 p7 n7 c7 (sgcd x y) s8 p8 n8 c8 1 w1 (HZ7.out.keep hw) hz (by omega))
   rw[hb]at HSA
   have HBV:=Kh hb
   clear hb
   go_upto_region 6 with(fail)
   go_cut [20]from 18 to 19 (fun v20 wf=>v20=.bool b∧Below we.heap.size we wf)
   case first=>
    have hS0:=S2_0_next (Below.refl _ we).drew ⟨X5.c0,X5.c1,Below.refl _ _,Below.size (show Below we.heap.size we we from Below.refl _ _)⟩
    clear X5
    have M1:True:=trivial
    go_region_held3 (fun w1=>w1.cell? ⟨g5,0,none⟩=some (.bool s7)∧w1.cell? ⟨g5,1,none⟩=some (.slice p7 n7 c7)∧Below we.heap.size we w1∧we.heap.size≤w1.heap.size)
     (first|with_reducible exact hS0 |(refine S2_0_next (by with_reducible assumption) ?_;assumption))
     (first
      |(go_at_call 133;refine(HO1.out _).mono ?_;rintro e w8 ⟨⟨s8,p8,n8,c8,rfl,hz8⟩,hb8⟩;have HB8:=Kh (Below.trans (S2_0_below (by with_reducible assumption)) (Below.mono hb8 (Below.size (S2_0_below (by with_reducible assumption)))));have HS8:=Kh (HSA.out _ HB8.out _ _ _ _ hz8);clear hz8)
      |(go_at_call 132;refine HS8.out.mono ?_;rintro e w9 ⟨rfl,hb9⟩;have HB9:=bt HB8 hb9;clear hb8))
    all_goals go_wp2
    all_goals go_meet
    all_goals exact⟨rfl,HB9.out⟩
   case rest=>
    obtain⟨wf,rfl⟩:∃ wf:World,wf=wc:=⟨_,rfl⟩
    obtain⟨rfl,hbf⟩:=hcut
    have X0:=bk HX0 hbf
    have X1:=bk HX1 hbf
    have X2:=bk HX2 hbf
    have X5:=bk HX7 hbf
    have HBF:=bt HBE hbf
    have HZ5:=Kh (HZ7.out.keep hbf)
    have HXZ:=Kh (sgcd_div (x:=x) HY.out)
    clear HX0 HX1 HX2 HX7 HZ7 HBE HSA HO1 hbf
    have T2:=Sts.of X2 (by intro v hv;simp at hv;rcases hv with rfl|rfl|rfl|rfl <;> first|exact NotInt.bool _|exact NotInt.slice _ _ _)
    cases b with
    | true=>
     have HV:=Kh (sgcd_one HY.out (of_decide_eq_true HBV.out))
     clear HBV HZ5 X5
     go_upto_region 7 with(fail)
     have hS0:=S4_4_next (Below.refl _ wf).drew ⟨X0.c0,X0.c1,X1.c0,X1.c1,X2.so 0,X2.free_ 0,T2,X2.so 1,X2.free_ 1,T2,X2.so 2,X2.free_ 2,T2,X2.so 3,X2.free_ 3,T2,HBF.out,Below.size (show Below w.heap.size w wf from HBF.out)⟩
     clear X0 X1 X2 T2
     have M1:True:=trivial
     go_region_held3 (fun w1=>w1.cell? ⟨w.heap.size,0,none⟩=some (.bool s)∧w1.cell? ⟨w.heap.size,1,none⟩=some (.slice p n c)∧w1.cell? ⟨w.heap.size+1,0,none⟩=some (.bool t)∧w1.cell? ⟨w.heap.size+1,1,none⟩=some (.slice q m d)∧w1.cell? ⟨w.heap.size+1+1,0,none⟩=some (cellOf w1 ⟨w.heap.size+1+1,0,none⟩)∧w1.frozen? ⟨w.heap.size+1+1,0,none⟩=false∧Sts w1 (w.heap.size+1+1)∧w1.cell? ⟨w.heap.size+1+1,1,none⟩=some (cellOf w1 ⟨w.heap.size+1+1,1,none⟩)∧w1.frozen? ⟨w.heap.size+1+1,1,none⟩=false∧Sts w1 (w.heap.size+1+1)∧w1.cell? ⟨w.heap.size+1+1,2,none⟩=some (cellOf w1 ⟨w.heap.size+1+1,2,none⟩)∧w1.frozen? ⟨w.heap.size+1+1,2,none⟩=false∧Sts w1 (w.heap.size+1+1)∧w1.cell? ⟨w.heap.size+1+1,3,none⟩=some (cellOf w1 ⟨w.heap.size+1+1,3,none⟩)∧w1.frozen? ⟨w.heap.size+1+1,3,none⟩=false∧Sts w1 (w.heap.size+1+1)∧Below w.heap.size w w1∧w.heap.size≤w1.heap.size)
      (first|with_reducible exact hS0 |(refine S4_4_next (by with_reducible assumption) ?_;assumption) |(refine S4_4_put ?_ ?_ ?_ ?_ ?_ ?_ ?_ ?_ ?_ ?_ ?_ ?_ ?_ ?_ ?_ ?_ ?_ ?_ ?_ ?_ ?_ ?_ ?_ ?_ ?_ <;> first|assumption|exact NotInt.bool _|exact NotInt.slice _ _ _ |(dsimp only;omega) |(simp;done)))
      (first
       |(go_at_call 134;clear M1;refine(HN1.out _ (S4_4_below (by with_reducible assumption))).mono ?_;rintro e w2 ⟨⟨s2,p2,n2,e2,rfl,hz2⟩,hb2⟩;have HZ2:=Kh hz2;clear hz2)
       |(go_at_call 134;refine(HN2.out _ (S4_4_below (by with_reducible assumption))).mono ?_;rintro e w3 ⟨⟨s3,p3,n3,e3,rfl,hz3⟩,hb3⟩;have HQ3:=Kh (show Qs w3 s2 p2 n2 e2 s3 p3 n3 e3 (Rat.divInt x y)from⟨by rw[HV.out.1];exact HZ2.out.keep hb3,by rw[HV.out.2];exact hz3⟩);clear hb2;obtain⟨⟨hR0,hT⟩,⟨hR1,_⟩,⟨hR2,_⟩,⟨hR3,_⟩⟩:=S4_4_end hb3 (by with_reducible assumption);have hq5:=Kh (HQ3.out.put4 hT (.bool s2) (.slice p2 n2 e2) (.bool s3) (.slice p3 n3 e3) (NotInt.bool _) (NotInt.slice _ _ _) (NotInt.bool _));clear hz3 hT))
     go_wp2
     try simp only[Exit.inBlock,Exit.then]
     refine bodyPost_ret (by simp[results,Tryz.results106,go_sem,hR0,hR1,hR2,hR3];try rfl) rfl ?_
     exact⟨⟨s2,p2,n2,e2,s3,p3,n3,e3,rfl,hq5.out⟩,S4_4_below (by assumption)⟩
    | false=>
     clear HBV
     go_upto_region 8 with(fail)
     have hS0:=S6_4_next (Below.refl _ wf).drew ⟨X0.c0,X0.c1,X1.c0,X1.c1,X5.c0,X5.c1,X2.so 0,X2.free_ 0,T2,X2.so 1,X2.free_ 1,T2,X2.so 2,X2.free_ 2,T2,X2.so 3,X2.free_ 3,T2,HBF.out,Below.size (show Below w.heap.size w wf from HBF.out)⟩
     clear X0 X1 X2 X5 T2
     have M1:True:=trivial
     go_region_held3 (fun w1=>w1.cell? ⟨w.heap.size,0,none⟩=some (.bool s)∧w1.cell? ⟨w.heap.size,1,none⟩=some (.slice p n c)∧w1.cell? ⟨w.heap.size+1,0,none⟩=some (.bool t)∧w1.cell? ⟨w.heap.size+1,1,none⟩=some (.slice q m d)∧w1.cell? ⟨g5,0,none⟩=some (.bool s7)∧w1.cell? ⟨g5,1,none⟩=some (.slice p7 n7 c7)∧w1.cell? ⟨w.heap.size+1+1,0,none⟩=some (cellOf w1 ⟨w.heap.size+1+1,0,none⟩)∧w1.frozen? ⟨w.heap.size+1+1,0,none⟩=false∧Sts w1 (w.heap.size+1+1)∧w1.cell? ⟨w.heap.size+1+1,1,none⟩=some (cellOf w1 ⟨w.heap.size+1+1,1,none⟩)∧w1.frozen? ⟨w.heap.size+1+1,1,none⟩=false∧Sts w1 (w.heap.size+1+1)∧w1.cell? ⟨w.heap.size+1+1,2,none⟩=some (cellOf w1 ⟨w.heap.size+1+1,2,none⟩)∧w1.frozen? ⟨w.heap.size+1+1,2,none⟩=false∧Sts w1 (w.heap.size+1+1)∧w1.cell? ⟨w.heap.size+1+1,3,none⟩=some (cellOf w1 ⟨w.heap.size+1+1,3,none⟩)∧w1.frozen? ⟨w.heap.size+1+1,3,none⟩=false∧Sts w1 (w.heap.size+1+1)∧Below w.heap.size w w1∧w.heap.size≤w1.heap.size)
      (first|with_reducible exact hS0 |(refine S6_4_next (by with_reducible assumption) ?_;assumption) |(refine S6_4_put ?_ ?_ ?_ ?_ ?_ ?_ ?_ ?_ ?_ ?_ ?_ ?_ ?_ ?_ ?_ ?_ ?_ ?_ ?_ ?_ ?_ ?_ ?_ ?_ ?_ ?_ ?_ ?_ ?_ ?_ ?_ ?_ ?_ <;> first|assumption|exact NotInt.bool _|exact NotInt.slice _ _ _ |(dsimp only;omega) |(simp;done)))
      (first
       |(go_at_call 135;clear M1;refine(HD1.out _ (S6_4_below (by with_reducible assumption)) _ _ _ _ _ (HZ5.out.keep ((Below.refl _ wf).drew)) (sgcd_ne HY.out) hn7).mono ?_;rintro e w2 ⟨⟨s2,p2,n2,e2,rfl,hz2⟩,hb2⟩;have HZ2:=Kh hz2;have HZ52:=Kh (HZ5.out.keep (((Below.refl _ wf).drew).trans hb2));clear hz2)
       |(go_at_call 135;refine(HD2.out _ (S6_4_below (by with_reducible assumption)) _ _ _ _ _ HZ52.out (sgcd_ne HY.out) hn7).mono ?_;rintro e w3 ⟨⟨s3,p3,n3,e3,rfl,hz3⟩,hb3⟩;have HQ3:=Kh (show Qs w3 s2 p2 n2 e2 s3 p3 n3 e3 (Rat.divInt x y)from⟨by rw[HXZ.out.1];exact HZ2.out.keep hb3,by rw[HXZ.out.2];exact hz3⟩);clear hb2;obtain⟨⟨hR0,hT⟩,⟨hR1,_⟩,⟨hR2,_⟩,⟨hR3,_⟩⟩:=S6_4_end hb3 (by with_reducible assumption);have hq5:=Kh (HQ3.out.put4 hT (.bool s2) (.slice p2 n2 e2) (.bool s3) (.slice p3 n3 e3) (NotInt.bool _) (NotInt.slice _ _ _) (NotInt.bool _));clear hz3 hT))
     go_wp2
     try simp only[Exit.inBlock,Exit.then]
     refine bodyPost_ret (by simp[results,Tryz.results106,go_sem,hR0,hR1,hR2,hR3];try rfl) rfl ?_
     exact⟨⟨s2,p2,n2,e2,s3,p3,n3,e3,rfl,hq5.out⟩,S6_4_below (by assumption)⟩
end Go.Proofs.YtijgdhijdfgpfaaGreatDoor
