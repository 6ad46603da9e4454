/- Contract of halfplaneref01.Euclid, where the divisor is not 0. -/
import Derived.Test.YtijgdhijdfgpfaaGreatDoorT20
set_option maxRecDepth 100000
set_option maxHeartbeats 8000000
namespace Go.Proofs.YtijgdhijdfgpfaaGreatDoor
open Go.RowKit
theorem S4_4_put2 {B:Nat} {w0 w:World} {a0 a1 a2 a3 b0 b1 b2 b3:Addr} {v0 v1 v2 v3:Value} (h:C4_4 B w0 w a0 a1 a2 a3 b0 b1 b2 b3 v0 v1 v2 v3) {p0 p1:Addr} {u0 u1:Value} (hi0:NotInt u0) (hp0:B≤p0.block) (hn0_0:p0.block≠a0.block) (hn0_1:p0.block≠a1.block) (hn0_2:p0.block≠a2.block) (hn0_3:p0.block≠a3.block) (hi1:NotInt u1) (hp1:B≤p1.block) (hn1_0:p1.block≠a0.block) (hn1_1:p1.block≠a1.block) (hn1_2:p1.block≠a2.block) (hn1_3:p1.block≠a3.block):C4_4 B w0 ((w.setCell p0 u0).setCell p1 u1) a0 a1 a2 a3 b0 b1 b2 b3 v0 v1 v2 v3:=(SS.put (B:=B) (w0:=w0) (l:=[(a0,v0),(a1,v1),(a2,v2),(a3,v3)]) (m:=[b0,b1,b2,b3]) (SS.put (B:=B) (w0:=w0) (l:=[(a0,v0),(a1,v1),(a2,v2),(a3,v3)]) (m:=[b0,b1,b2,b3]) h p0 u0 hi0 hp0 (by simp[*])) p1 u1 hi1 hp1 (by simp[*]))
def RetZ2 (w':World) (e:Ending) (q r:Int):Prop:=∃ s p n c t p' m d,e=.returned (.tuple #[.agg #[.bool s,.slice p n c],.agg #[.bool t,.slice p' m d]])∧Zs w' s p n c q∧Zs w' t p' m d r
theorem c_Euclid (s:Bool) (p:Option Addr) (n c:Nat) (x:Int) (t:Bool) (q:Option Addr) (m d:Nat) (y:Int) (w:World) (h:Zr w s p n c x) (h':Zr w t q m d y) (hn:n≤4398046511000) (hm:m≤4398046511000) (hy0:y≠0):
  Calls Tryz.prog 160 #[.agg #[.bool s,.slice p n c],.agg #[.bool t,.slice q m d]] w fun e w'=>RetZ2 w' e (x / y) (x % y)∧Below w.heap.size w w':=by
 have HN1:=Kh (fun w1 (hb:Below w.heap.size w w1)=>c_Norm s p n c x w1 (h.keep hb) (by omega))
 have HN2:=Kh (fun w1 (hb:Below w.heap.size w w1)=>c_Norm t q m d y w1 (h'.keep hb) (by omega))
 have HX:=Kh (Nat.le_trans h.size hn)
 have HY:=Kh (Nat.le_trans h'.size hm)
 have HY0:=Kh hy0
 clear h h' hy0
 go_enter Tryz.func160,Tryz.ntmps160
 go_upto_region 1 with(fail)
 obtain⟨wc,hwc,X0,X1,X2,X3,hb0⟩:=bx4 w #[.bool s,.slice p n c] 65 #[.bool t,.slice q m d] 65 #[.bool false,.slice none 0 0] 65 #[.bool false,.slice none 0 0] 65
 rw[hwc]
 have hs0:w.heap.size≤wc.heap.size:=hb0.size
 clear hwc
 have HBC:=Kh hb0
 have HR2:=Kh X2
 have HR3:=Kh X3
 have hlt:w.heap.size+1+1+1<wc.heap.size:=X3.lt
 clear X2 X3
 go_cut [6,7]from 11 to 14 (fun v5 v6 wd=>∃ g5 g6,v5=.pointer (some ⟨g5,0,none⟩)∧v6=.pointer (some ⟨g6,0,none⟩)∧g5≠g6∧wc.heap.size≤g5∧wc.heap.size≤g6∧TwoZ wd g5 g6 x y∧Below wc.heap.size wc wd)
 case first=>
  have hS1:wc.cell? ⟨w.heap.size,0,none⟩=some (.bool s)∧wc.cell? ⟨w.heap.size,1,none⟩=some (.slice p n c)∧wc.cell? ⟨w.heap.size+1,0,none⟩=some (.bool t)∧wc.cell? ⟨w.heap.size+1,1,none⟩=some (.slice q m d)∧Below wc.heap.size wc wc∧wc.heap.size≤wc.heap.size:=⟨X0.at_ 0 rfl,X0.at_ 1 rfl,X1.at_ 0 rfl,X1.at_ 1 rfl,Below.refl _ _,Nat.le_refl _⟩
  have hS0:wc.drew.cell? ⟨w.heap.size,0,none⟩=some (.bool s)∧wc.drew.cell? ⟨w.heap.size,1,none⟩=some (.slice p n c)∧wc.drew.cell? ⟨w.heap.size+1,0,none⟩=some (.bool t)∧wc.drew.cell? ⟨w.heap.size+1,1,none⟩=some (.slice q m d)∧Below wc.heap.size wc wc.drew∧wc.heap.size≤wc.drew.heap.size:=S4_0_next (Below.refl _ wc).drew hS1
  clear X0 X1
  have M1:True:=trivial
  go_region_held3 (fun w1=>w1.cell? ⟨w.heap.size,0,none⟩=some (.bool s)∧w1.cell? ⟨w.heap.size,1,none⟩=some (.slice p n c)∧w1.cell? ⟨w.heap.size+1,0,none⟩=some (.bool t)∧w1.cell? ⟨w.heap.size+1,1,none⟩=some (.slice q m d)∧Below wc.heap.size wc w1∧wc.heap.size≤w1.heap.size)
   (first|with_reducible exact hS0 |(refine S4_0_next (by with_reducible assumption) ?_;assumption)|exact S4_0_next (by go_grown) hS1)
   (first
    |(go_at_call 134;clear M1;refine(HN1.out _ (HBC.out.trans ((S4_0_below (by with_reducible assumption)).mono HBC.out.size))).mono ?_;rintro e w2 ⟨⟨s2,p2,n2,e2,rfl,hz2⟩,hb2⟩;have HA2:=Kh hz2;have hz2s:wc.heap.size≤w2.heap.size:=Nat.le_trans (S4_0_size (by with_reducible assumption)) (Below.size hb2);have hw2:Below wc.heap.size wc w2:=Below.trans (S4_0_below (by with_reducible assumption)) (Below.mono hb2 (S4_0_size (by with_reducible assumption)));(first|have fa:=fr2 (B:=wc.heap.size) (W:=wc.drew) (g:=wc.heap.size) rfl (Nat.le_refl _) hb2|have fa:=fr1 (B:=wc.heap.size) (W:=wc.drew) (g:=wc.heap.size) rfl (Nat.le_refl _) hb2|skip);(try have fb:=fr1 (B:=wc.heap.size) (W:=wc.drew.alloc (.cells #[.bool false,.slice none 0 0] 65)) (g:=wc.heap.size+1) (by simp) (by omega) hb2);clear hz2)
    |(go_at_call 134;refine(HN2.out _ (HBC.out.trans ((S4_0_below (by with_reducible assumption)).mono HBC.out.size))).mono ?_;rintro e w3 ⟨⟨s3,p3,n3,e3,rfl,hz3⟩,hb3⟩;have HA3:=Kh (show Zs w3 s2 p2 n2 e2 x∧Zs w3 s3 p3 n3 e3 y from⟨by first|exact HA2.out.keep hb3|exact(HA2.out.keep ((Below.refl _ _).alloc (Nat.le_refl _) _)).keep hb3|exact((HA2.out.keep ((Below.refl _ _).alloc (Nat.le_refl _) _)).keep ((Below.refl _ _).alloc (Nat.le_refl _) _)).keep hb3,hz3⟩);have hz3s:wc.heap.size≤w3.heap.size:=Nat.le_trans (S4_0_size (by with_reducible assumption)) (Below.size hb3);have hw3:Below wc.heap.size wc w3:=Below.trans (S4_0_below (by with_reducible assumption)) (Below.mono hb3 (S4_0_size (by with_reducible assumption)));(first|have ga:=frn0 fa hb3|have ga:=frn1 fa hb3|skip);(try have gb:=frn0 fb hb3);(first|have gc:=fr2 (B:=wc.heap.size) (W:=w2) (g:=w2.heap.size) rfl hz2s hb3|have gc:=fr1 (B:=wc.heap.size) (W:=w2) (g:=w2.heap.size) rfl hz2s hb3|skip);(try have gd:=fr1 (B:=wc.heap.size) (W:=w2.alloc (.cells #[.bool false,.slice none 0 0] 65)) (g:=w2.heap.size+1) (by simp) (by omega) hb3);(try have ha1:=fun o=>fr_al ga o);(try have hb1:=fun o=>fr_al gb o);(try have hc1:=fun o=>fr_al gc o);(try have hd1:=fun o=>fr_al gd o);have hnn:=fr_new hz3s;(try have qga:=And.intro (Nat.ne_of_lt ga.2.2.2.2.2.lt) (Nat.ne_of_gt ga.2.2.2.2.2.lt));(try have qgb:=And.intro (Nat.ne_of_lt gb.2.2.2.2.2.lt) (Nat.ne_of_gt gb.2.2.2.2.2.lt));(try have qgc:=And.intro (Nat.ne_of_lt gc.2.2.2.2.2.lt) (Nat.ne_of_gt gc.2.2.2.2.2.lt));(try have qgd:=And.intro (Nat.ne_of_lt gd.2.2.2.2.2.lt) (Nat.ne_of_gt gd.2.2.2.2.2.lt));(try have qfa:=And.intro (Nat.ne_of_lt fa.2.2.2.2.2.lt) (Nat.ne_of_gt fa.2.2.2.2.2.lt));(try have qfb:=And.intro (Nat.ne_of_lt fb.2.2.2.2.2.lt) (Nat.ne_of_gt fb.2.2.2.2.2.lt));(try have hb2s:=Below.size hb2);(try have hb3s:=Below.size hb3);clear hz3 HA2))
  all_goals go_wp2
  all_goals go_meet
  all_goals refine⟨_,_,rfl,rfl,?_,?_,?_,?_,?_⟩
  all_goals first
   |(with_reducible exact two_new12 HA3.out)
   |(with_reducible exact two_new21 HA3.out)
   |(with_reducible exact two_half ga.2.2.2.2.2 HA3.out)
   |(with_reducible exact two_half gb.2.2.2.2.2 HA3.out)
   |(with_reducible exact two_half gc.2.2.2.2.2 HA3.out)
   |(with_reducible exact two_half gd.2.2.2.2.2 HA3.out)
   |(with_reducible exact two_top ga.2.2.2.2.2 HA3.out)
   |(with_reducible exact two_top gb.2.2.2.2.2 HA3.out)
   |(with_reducible exact two_top gc.2.2.2.2.2 HA3.out)
   |(with_reducible exact two_top gd.2.2.2.2.2 HA3.out)
   |(with_reducible exact two_put (by omega) ga.2.2.2.2.2 gb.2.2.2.2.2 HA3.out.1 HA3.out.2)
   |(with_reducible exact two_put (by omega) ga.2.2.2.2.2 gc.2.2.2.2.2 HA3.out.1 HA3.out.2)
   |(with_reducible exact two_put (by omega) ga.2.2.2.2.2 gd.2.2.2.2.2 HA3.out.1 HA3.out.2)
   |(with_reducible exact two_put (by omega) gb.2.2.2.2.2 ga.2.2.2.2.2 HA3.out.1 HA3.out.2)
   |(with_reducible exact two_put (by omega) gb.2.2.2.2.2 gc.2.2.2.2.2 HA3.out.1 HA3.out.2)
   |(with_reducible exact two_put (by omega) gb.2.2.2.2.2 gd.2.2.2.2.2 HA3.out.1 HA3.out.2)
   |(with_reducible exact two_put (by omega) gc.2.2.2.2.2 ga.2.2.2.2.2 HA3.out.1 HA3.out.2)
   |(with_reducible exact two_put (by omega) gc.2.2.2.2.2 gb.2.2.2.2.2 HA3.out.1 HA3.out.2)
   |(with_reducible exact two_put (by omega) gc.2.2.2.2.2 gd.2.2.2.2.2 HA3.out.1 HA3.out.2)
   |(with_reducible exact two_put (by omega) gd.2.2.2.2.2 ga.2.2.2.2.2 HA3.out.1 HA3.out.2)
   |(with_reducible exact two_put (by omega) gd.2.2.2.2.2 gb.2.2.2.2.2 HA3.out.1 HA3.out.2)
   |(with_reducible exact two_put (by omega) gd.2.2.2.2.2 gc.2.2.2.2.2 HA3.out.1 HA3.out.2)
   | omega
   | go_grown
 case rest=>
  obtain⟨gx,gy,rfl,rfl,hne,hg5,hg6,⟨s1,p1,n1,c1,t1,q1,m1,d1,XA,XB,zx,zy⟩,hbd⟩:=hcut
  have hlt5:w.heap.size+1+1+1<gx:=by omega
  have hlt6:w.heap.size+1+1+1<gy:=by omega
  have XR2:=bk HR2 hbd
  have XR3:=bk HR3 hbd
  have hbw:=HBC.out.trans (hbd.mono HBC.out.size)
  obtain⟨u,hu⟩:∃ u,x.natAbs=u:=⟨_,rfl⟩
  obtain⟨v,hv⟩:∃ v,y.natAbs=v:=⟨_,rfl⟩
  have hxs:sg s1 u=x:=by rw[zx.1,← hu];exact sg_self x
  have hys:sg t1 v=y:=by rw[zy.1,← hv];exact sg_self y
  have hnu:nd u=n1:=by rw[← hu];exact zx.2.1
  have hnv:nd v=m1:=by rw[← hv];exact zy.2.1
  have hmu:Nm wc p1 c1 u:=by rw[← hu];exact zx.2.2
  have hmv:Nm wc q1 d1 v:=by rw[← hv];exact zy.2.2
  have hn1l:n1≤4398046511000:=by rw[← hnu,← hu];exact HX.out
  have hm1l:m1≤4398046511000:=by rw[← hnv,← hv];exact HY.out
  have hvu:vf (dg u) n1=u:=by rw[← hnu,vf_nd]
  have hvv:vf (dg v) m1=v:=by rw[← hnv,vf_nd]
  have hdu:Dg wc p1 c1 n1 (dg u):=by unfold Nm at hmu;rw[hnu]at hmu;exact hmu
  have hdv:Dg wc q1 d1 m1 (dg v):=by unfold Nm at hmv;rw[hnv]at hmv;exact hmv
  have HYZ:=Kh (zy)
  have hv0:0<v:=by have:=HY0.out;omega
  obtain⟨hqe,hre⟩:=sg_div (s:=s1) (t:=t1) (u:=u) hv0
  rw[hxs,hys]at hqe hre
  obtain⟨Q,hQ⟩:∃ Q,u / v=Q:=⟨_,rfl⟩
  obtain⟨R,hR⟩:∃ R,u % v=R:=⟨_,rfl⟩
  have hRv:R<v:=by rw[← hR];exact Nat.mod_lt _ hv0
  rw[hQ,hR]at hqe
  rw[hR]at hre
  have hD:=c_divided p1 c1 u q1 d1 v wc hmu hmv (by rw[hnu];omega) (by rw[hnv];omega) hv0
  rw[hnu,hnv,hQ,hR]at hD
  have HD:=Kh hD
  have HQE:=Kh hqe
  have HRE:=Kh hre
  have HRV0:=Kh hRv
  have HAV:=Kh (show y.natAbs=v from hv)
  have HNV1:=Kh hnv
  have hkR:nd R≤m1:=by rw[← hnv];exact nd_mono (Nat.le_of_lt hRv)
  have HXA:=Kh XA
  have HXB:=Kh XB
  have HX2:=Kh XR2
  have HX3:=Kh XR3
  have HBW:=Kh hbw
  have a1:=XA.at_ 1 rfl
  have b1:=XB.at_ 1 rfl
  clear zx zy hu hv hxs hys hnu hnv hvu hvv hdu hdv hmu hmv XA XB XR2 XR3 hbw HN1 HN2 HX HY X0 X1 hb0 hs0 hbd hg5 hg6 hlt HBC HR2 HR3 hD hqe hre hQ hR hRv hv0 HY0
  go_wp2_with fail
  refine HD.out.mono ?_
  rintro e w2 ⟨⟨p2,k2,c2,rq,p3,c3,rfl,hdq,hvq,hk2,hmr⟩,hb2⟩
  obtain⟨k3,hk3⟩:∃ k,nd R=k:=⟨_,rfl⟩
  rw[hk3]
  rw[hk3]at hkR
  have hSg:=c_rsigned false p3 c3 k3 (dg R) w2 (by unfold Nm at hmr;rw[hk3]at hmr;exact hmr) (by omega)
  rw[show vf (dg R) k3=R by rw[← hk3,vf_nd],sg_false]at hSg
  have HSG:=Kh hSg
  have HDQ:=Kh (And.intro hdq hvq)
  have HK3:=Kh hk3
  have HB2:=Kh hb2
  clear hdq hvq hmr hk3 hb2 hSg HD a1 b1
  go_wp2_with fail
  refine HSG.out.mono ?_
  rintro e w4 ⟨⟨s4,p4,n4,c4,rfl,hz4⟩,hb4⟩
  have hs4:s4=false:=by rw[hz4.1];exact decide_eq_false (by omega)
  subst hs4
  have hn4:n4=k3:=by rw[← hz4.2.1,← HK3.out,Int.natAbs_natCast]
  subst hn4
  obtain⟨w5,hw5⟩:∃ w5,w4.alloc (.cells #[.bool false,.slice p4 n4 c4] 65)=w5:=⟨_,rfl⟩
  obtain⟨X10,hb5⟩:=box1 w4 #[.bool false,.slice p4 n4 c4] 65
  rw[hw5]at X10 hb5
  obtain⟨g10,hg10⟩:∃ g,w4.heap.size=g:=⟨_,rfl⟩
  rw[hg10]at X10
  have hb25:Below wc.heap.size wc w5:=(HB2.out.trans (hb4.mono HB2.out.size)).trans (hb5.mono (Nat.le_trans HB2.out.size hb4.size))
  have hb225:Below w2.heap.size w2 w5:=hb4.trans (hb5.mono hb4.size)
  have hg10l:w.heap.size+1+1+1<g10:=by
   have h1:=HX3.out.lt;have h2:=HB2.out.size;have h3:=hb4.size
   omega
  have HGX:=Kh (bk HXA hb25)
  have HGY:=Kh (bk HXB hb25)
  have HGR:=Kh X10
  have H4:=Kh (bk HX2 hb25)
  have H5:=Kh (bk HX3 hb25)
  have TH4:=Kh (Sts.of H4.out (by intro v hv;simp at hv;rcases hv with rfl|rfl <;> first|exact NotInt.bool _|exact NotInt.slice _ _ _))
  have TH5:=Kh (Sts.of H5.out (by intro v hv;simp at hv;rcases hv with rfl|rfl <;> first|exact NotInt.bool _|exact NotInt.slice _ _ _))
  have HB5:=bt HBW hb25
  have HZ4:=Kh (hz4.keep hb5)
  have HQ5:=Kh (show Dg w5 p2 c2 k2 rq∧vf rq k2=Q from⟨HDQ.out.1.keep hb225,HDQ.out.2⟩)
  have HYZ5:=Kh (HYZ.out.keep hb25)
  have a0:=HGX.out.at_ 0 rfl
  have r0:=HGR.out.at_ 0 rfl
  have r1:=HGR.out.at_ 1 rfl
  clear hz4 hb4 hb5 hb25 hb225 X10 HSG HDQ HB2 HXA HXB HX2 HX3 HBW HYZ
  have hVR:∀ w9,Below w5.heap.size w5 w9→Var2 w9 (w.heap.size+1+1)∧Var2 w9 (w.heap.size+1+1+1)∧Below w.heap.size w w9:=fun w9 hb=>
   ⟨Var2.of (bk H4 hb) (NotInt.bool _) (NotInt.slice _ _ _),Var2.of (bk H5 hb) (NotInt.bool _) (NotInt.slice _ _ _),HB5.out.trans (hb.mono HB5.out.size)⟩
  have HVR:=Kh hVR
  clear hVR
  by_cases hcase:s1=true∧0<n4
  ·obtain⟨rfl,hn40⟩:=hcase
   have hR0:0<R:=Nat.pos_of_ne_zero (nd_pos.1 (by rw[HK3.out];exact hn40))
   have HQV:=Kh (show sg (!t1) (Q+1)=x / y by have h1:=HQE.out;rw[if_pos ⟨rfl,hR0⟩]at h1;rw[h1];cases t1 <;> rfl)
   have HRV:=Kh (show(y.natAbs:Int) - (R:Int)=x % y by have h1:=HRE.out;rw[if_pos ⟨rfl,hR0⟩]at h1;rw[h1,HAV.out];have:=HRV0.out;omega)
   have hba:Below w5.heap.size w5 (w5.drew.alloc (.cells #[.int .u32 1] 65)):=((Below.refl _ w5).drew).alloc (Nat.le_refl _) _
   have hba1:Below w5.heap.size w5 (w5.drew.alloc (.cells #[.int .u32 1] 149)):=((Below.refl _ w5).drew).alloc (Nat.le_refl _) _
   have hrow1:Row (w5.drew.alloc (.cells #[.int .u32 1] 149)) w5.drew.heap.size 1 (fun _=>1):=Row.alloc w5.drew #[.int .u32 1] 1 (fun _=>1) rfl (fun i hi=>by
    obtain rfl:i=0:=Nat.lt_one_iff.1 hi
    rfl) (fun _ _=>(by decide:(1:Nat)<4294967296))
   have hone:Dg (w5.drew.alloc (.cells #[.int .u32 1] 149)) (some ⟨w5.heap.size,0,none⟩) 1 1 (fun _=>1):=hrow1.dg 1 (Nat.le_refl _)
   have hP:=c_rplus p2 c2 k2 rq (some ⟨w5.heap.size,0,none⟩) 1 1 (fun _=>1) _ (HQ5.out.1.keep hba1) hone (by omega) (by omega)
   rw[HQ5.out.2,show vf (fun _=>1) 1=1 from rfl]at hP
   have HP:=Kh hP
   have HBA:=Kh hba1
   have hyl:nd y.natAbs≤4398046511000:=by rw[HAV.out,HNV1.out];exact hm1l
   clear hP hone hrow1 hba hba1 hR0
   go_upto_region 5 with(fail)
   have hS0:=S4_4_next (Below.refl _ w5).drew ⟨HGY.out.c0,HGY.out.c1,HGR.out.c0,HGR.out.c1,H4.out.so 0,H4.out.free_ 0,TH4.out,H4.out.so 1,H4.out.free_ 1,TH4.out,H5.out.so 0,H5.out.free_ 0,TH5.out,H5.out.so 1,H5.out.free_ 1,TH5.out,HB5.out,HB5.out.size⟩
   have M1:True:=trivial
   go_region_held3 (fun w1=>w1.cell? ⟨gy,0,none⟩=some (.bool t1)∧w1.cell? ⟨gy,1,none⟩=some (.slice q1 m1 d1)∧w1.cell? ⟨g10,0,none⟩=some (.bool false)∧w1.cell? ⟨g10,1,none⟩=some (.slice p4 n4 c4)∧w1.cell? ⟨w.heap.size+1+1,0,none⟩=some (cellOf w1 ⟨w.heap.size+1+1,0,none⟩)∧w1.frozen? ⟨w.heap.size+1+1,0,none⟩=false∧Sts w1 (w.heap.size+1+1)∧w1.cell? ⟨w.heap.size+1+1,1,none⟩=some (cellOf w1 ⟨w.heap.size+1+1,1,none⟩)∧w1.frozen? ⟨w.heap.size+1+1,1,none⟩=false∧Sts w1 (w.heap.size+1+1)∧w1.cell? ⟨w.heap.size+1+1+1,0,none⟩=some (cellOf w1 ⟨w.heap.size+1+1+1,0,none⟩)∧w1.frozen? ⟨w.heap.size+1+1+1,0,none⟩=false∧Sts w1 (w.heap.size+1+1+1)∧w1.cell? ⟨w.heap.size+1+1+1,1,none⟩=some (cellOf w1 ⟨w.heap.size+1+1+1,1,none⟩)∧w1.frozen? ⟨w.heap.size+1+1+1,1,none⟩=false∧Sts w1 (w.heap.size+1+1+1)∧Below w.heap.size w w1∧w.heap.size≤w1.heap.size)
    (first|with_reducible exact hS0 |(refine S4_4_next (by with_reducible assumption) ?_;assumption) |(refine S4_4_put2 ?_ ?_ ?_ ?_ ?_ ?_ ?_ ?_ ?_ ?_ ?_ ?_ ?_ <;> first|with_reducible assumption|exact NotInt.bool _|exact NotInt.slice _ _ _ |(dsimp only;omega))|exact S4_4_next ((Below.refl _ _).alloc (Nat.le_refl _) _) hS0|exact S4_4_next ((Below.refl _ _).alloc (Nat.le_refl _) _) (by assumption))
    (first
     |(go_at_call 137;refine HP.out.mono ?_;rintro e w6 ⟨⟨p6,c6,r6,rfl,hd6,hv6⟩,hb6⟩;have hw6:Below w5.heap.size w5 w6:=HBA.out.trans (hb6.mono HBA.out.size);have HW6:=Kh hw6;have hS6:=c_rsigned (!t1) p6 c6 _ r6 w6 hd6 (by omega);rw[hv6]at hS6;have HS6:=Kh hS6;clear hS6 hd6 hv6 hw6)
     |(go_at_call 136;refine HS6.out.mono ?_;rintro e w7 ⟨⟨s6,p6,n6,c6,rfl,hz6⟩,hb7⟩;have HW7:=bt HW6 hb7;have HZ6:=Kh hz6;have HAB:=Kh (c_rAbs t1 q1 m1 d1 y w7 (HYZ5.out.keep HW7.out).raw (by omega));clear hz6 hb6)
     |(go_at_call 157;refine HAB.out.mono ?_;rintro e w8 ⟨⟨s8,p8,n8,c8,rfl,hz8⟩,hb8⟩;have HW8:=bt HW7 hb8;have HZ68:=Kh (HZ6.out.keep hb8);have HSU:=Kh (c_rSub s8 p8 n8 c8 _ false p4 n4 c4 _ w8 hz8.raw (HZ4.out.keep HW8.out).raw (by rw[← hz8.2.1];simpa using Nat.le_trans hyl (by decide)) (by omega));clear hz8 hb7)
     |(go_at_call 175;refine HSU.out.mono ?_;rintro e w9 ⟨⟨s7,p7,n7,c7,rfl,hz7⟩,hb9⟩;have hw9:Below w5.heap.size w5 w9:=HW8.out.trans (hb9.mono HW8.out.size);obtain⟨v4,v5,b9⟩:=HVR.out w9 hw9;have HV4:=Kh v4;have HV5:=Kh v5;have HB9:=Kh b9;have HZ69:=Kh (HZ68.out.keep hb9);have HZ7:=Kh hz7;clear v4 v5 b9 hz7 hb8 hw9))
   obtain⟨w7,hw7⟩:∃ w7,(((w9.setCell ⟨w.heap.size+1+1,0,none⟩ (.bool s6)).setCell ⟨w.heap.size+1+1,1,none⟩ (.slice p6 n6 c6)).setCell ⟨w.heap.size+1+1+1,0,none⟩ (.bool s7)).setCell ⟨w.heap.size+1+1+1,1,none⟩ (.slice p7 n7 c7)=w7:=⟨_,rfl⟩
   obtain⟨E0,E1,E2,E3,z6,z7⟩:=put4 HV4.out HV5.out (by omega) HZ69.out HZ7.out hw7
   have hb7:Below w.heap.size w w7:=by rw[← hw7];exact below_put4 HB9.out (by omega) (by omega) _ _ _ _
   go_wp2
   try rw[hw7]
   try simp only[Exit.inBlock,Exit.then]
   refine bodyPost_ret (by simp[results,Tryz.results160,go_sem,E0,E1,E2,E3];try rfl) rfl ?_
   exact⟨⟨s6,p6,n6,c6,s7,p7,n7,c7,rfl,HQV.out▸z6,HRV.out▸z7⟩,hb7⟩
  ·have hnc:¬ (s1=true∧0<R):=fun h=>hcase ⟨h.1,by rw[← HK3.out];exact nd_pos.2 (by have:=h.2;omega)⟩
   have HQV0:=Kh (show sg (s1 != t1) Q=x / y by have h1:=HQE.out;rw[if_neg hnc]at h1;exact h1.symm)
   have HRV:=Kh (show(R:Int)=x % y by have h1:=HRE.out;rw[if_neg hnc]at h1;exact h1.symm)
   clear hnc
   cases s1 with
   | false=>
    have HQV:=Kh (show sg t1 Q=x / y by rw[← HQV0.out];cases t1 <;> rfl)
    have HS6:=Kh (fun w6 (hb:Below w5.heap.size w5 w6)=>c_rsigned t1 p2 c2 k2 rq w6 (HQ5.out.1.keep hb) (by omega))
    rw[HQ5.out.2]at HS6
    clear hcase
    go_upto_region 6 with(fail)
    have hS0:=S4_4_next (Below.refl _ w5).drew ⟨HGX.out.c0,HGY.out.c0,HGR.out.c0,HGR.out.c1,H4.out.so 0,H4.out.free_ 0,TH4.out,H4.out.so 1,H4.out.free_ 1,TH4.out,H5.out.so 0,H5.out.free_ 0,TH5.out,H5.out.so 1,H5.out.free_ 1,TH5.out,HB5.out,HB5.out.size⟩
    have M1:True:=trivial
    go_region_held3 (fun w1=>w1.cell? ⟨gx,0,none⟩=some (.bool false)∧w1.cell? ⟨gy,0,none⟩=some (.bool t1)∧w1.cell? ⟨g10,0,none⟩=some (.bool false)∧w1.cell? ⟨g10,1,none⟩=some (.slice p4 n4 c4)∧w1.cell? ⟨w.heap.size+1+1,0,none⟩=some (cellOf w1 ⟨w.heap.size+1+1,0,none⟩)∧w1.frozen? ⟨w.heap.size+1+1,0,none⟩=false∧Sts w1 (w.heap.size+1+1)∧w1.cell? ⟨w.heap.size+1+1,1,none⟩=some (cellOf w1 ⟨w.heap.size+1+1,1,none⟩)∧w1.frozen? ⟨w.heap.size+1+1,1,none⟩=false∧Sts w1 (w.heap.size+1+1)∧w1.cell? ⟨w.heap.size+1+1+1,0,none⟩=some (cellOf w1 ⟨w.heap.size+1+1+1,0,none⟩)∧w1.frozen? ⟨w.heap.size+1+1+1,0,none⟩=false∧Sts w1 (w.heap.size+1+1+1)∧w1.cell? ⟨w.heap.size+1+1+1,1,none⟩=some (cellOf w1 ⟨w.heap.size+1+1+1,1,none⟩)∧w1.frozen? ⟨w.heap.size+1+1+1,1,none⟩=false∧Sts w1 (w.heap.size+1+1+1)∧Below w.heap.size w w1∧w.heap.size≤w1.heap.size)
     (first|with_reducible exact hS0 |(refine S4_4_next (by with_reducible assumption) ?_;assumption) |(refine S4_4_put2 ?_ ?_ ?_ ?_ ?_ ?_ ?_ ?_ ?_ ?_ ?_ ?_ ?_ <;> first|with_reducible assumption|exact NotInt.bool _|exact NotInt.slice _ _ _ |(dsimp only;omega))|exact S4_4_next ((Below.refl _ _).alloc (Nat.le_refl _) _) hS0|exact S4_4_next ((Below.refl _ _).alloc (Nat.le_refl _) _) (by assumption))
     (first
      |(go_at_call 136;refine(HS6.out _ (Below.refl _ w5).drew).mono ?_;rintro e w9 ⟨⟨s6,p6,n6,c6,rfl,hz6⟩,hb9⟩;have hw9:Below w5.heap.size w5 w9:=(Below.refl _ w5).drew.trans hb9;obtain⟨v4,v5,b9⟩:=HVR.out w9 hw9;have HV4:=Kh v4;have HV5:=Kh v5;have HB9:=Kh b9;have HZ6:=Kh hz6;have HZ7:=Kh (HZ4.out.keep hw9);clear v4 v5 b9 hz6 hw9))
    obtain⟨w7,hw7⟩:∃ w7,(((w9.setCell ⟨w.heap.size+1+1,0,none⟩ (.bool s6)).setCell ⟨w.heap.size+1+1,1,none⟩ (.slice p6 n6 c6)).setCell ⟨w.heap.size+1+1+1,0,none⟩ (.bool false)).setCell ⟨w.heap.size+1+1+1,1,none⟩ (.slice p4 n4 c4)=w7:=⟨_,rfl⟩
    obtain⟨E0,E1,E2,E3,z6,z7⟩:=put4 HV4.out HV5.out (by omega) HZ6.out HZ7.out hw7
    have hb7:Below w.heap.size w w7:=by rw[← hw7];exact below_put4 HB9.out (by omega) (by omega) _ _ _ _
    go_wp2
    try rw[hw7]
    try simp only[Exit.inBlock,Exit.then]
    refine bodyPost_ret (by simp[results,Tryz.results160,go_sem,E0,E1,E2,E3];try rfl) rfl ?_
    exact⟨⟨s6,p6,n6,c6,false,p4,n4,c4,rfl,HQV.out▸z6,HRV.out▸z7⟩,hb7⟩
   | true=>
    obtain rfl:n4=0:=by
     rcases Nat.eq_zero_or_pos n4 with h1|h1
     ·exact h1
     ·exact absurd ⟨rfl,h1⟩ hcase
    have HQV:=Kh (show sg (!t1) Q=x / y by rw[← HQV0.out];cases t1 <;> rfl)
    have HS6:=Kh (fun w6 (hb:Below w5.heap.size w5 w6)=>c_rsigned (!t1) p2 c2 k2 rq w6 (HQ5.out.1.keep hb) (by omega))
    rw[HQ5.out.2]at HS6
    clear hcase
    go_upto_region 6 with(fail)
    have hS0:=S4_4_next (Below.refl _ w5).drew ⟨HGX.out.c0,HGY.out.c0,HGR.out.c0,HGR.out.c1,H4.out.so 0,H4.out.free_ 0,TH4.out,H4.out.so 1,H4.out.free_ 1,TH4.out,H5.out.so 0,H5.out.free_ 0,TH5.out,H5.out.so 1,H5.out.free_ 1,TH5.out,HB5.out,HB5.out.size⟩
    have M1:True:=trivial
    go_region_held3 (fun w1=>w1.cell? ⟨gx,0,none⟩=some (.bool true)∧w1.cell? ⟨gy,0,none⟩=some (.bool t1)∧w1.cell? ⟨g10,0,none⟩=some (.bool false)∧w1.cell? ⟨g10,1,none⟩=some (.slice p4 0 c4)∧w1.cell? ⟨w.heap.size+1+1,0,none⟩=some (cellOf w1 ⟨w.heap.size+1+1,0,none⟩)∧w1.frozen? ⟨w.heap.size+1+1,0,none⟩=false∧Sts w1 (w.heap.size+1+1)∧w1.cell? ⟨w.heap.size+1+1,1,none⟩=some (cellOf w1 ⟨w.heap.size+1+1,1,none⟩)∧w1.frozen? ⟨w.heap.size+1+1,1,none⟩=false∧Sts w1 (w.heap.size+1+1)∧w1.cell? ⟨w.heap.size+1+1+1,0,none⟩=some (cellOf w1 ⟨w.heap.size+1+1+1,0,none⟩)∧w1.frozen? ⟨w.heap.size+1+1+1,0,none⟩=false∧Sts w1 (w.heap.size+1+1+1)∧w1.cell? ⟨w.heap.size+1+1+1,1,none⟩=some (cellOf w1 ⟨w.heap.size+1+1+1,1,none⟩)∧w1.frozen? ⟨w.heap.size+1+1+1,1,none⟩=false∧Sts w1 (w.heap.size+1+1+1)∧Below w.heap.size w w1∧w.heap.size≤w1.heap.size)
     (first|with_reducible exact hS0 |(refine S4_4_next (by with_reducible assumption) ?_;assumption) |(refine S4_4_put2 ?_ ?_ ?_ ?_ ?_ ?_ ?_ ?_ ?_ ?_ ?_ ?_ ?_ <;> first|with_reducible assumption|exact NotInt.bool _|exact NotInt.slice _ _ _ |(dsimp only;omega))|exact S4_4_next ((Below.refl _ _).alloc (Nat.le_refl _) _) hS0|exact S4_4_next ((Below.refl _ _).alloc (Nat.le_refl _) _) (by assumption))
     (first
      |(go_at_call 136;refine(HS6.out _ (Below.refl _ w5).drew).mono ?_;rintro e w9 ⟨⟨s6,p6,n6,c6,rfl,hz6⟩,hb9⟩;have hw9:Below w5.heap.size w5 w9:=(Below.refl _ w5).drew.trans hb9;obtain⟨v4,v5,b9⟩:=HVR.out w9 hw9;have HV4:=Kh v4;have HV5:=Kh v5;have HB9:=Kh b9;have HZ6:=Kh hz6;have HZ7:=Kh (HZ4.out.keep hw9);clear v4 v5 b9 hz6 hw9))
    obtain⟨w7,hw7⟩:∃ w7,(((w9.setCell ⟨w.heap.size+1+1,0,none⟩ (.bool s6)).setCell ⟨w.heap.size+1+1,1,none⟩ (.slice p6 n6 c6)).setCell ⟨w.heap.size+1+1+1,0,none⟩ (.bool false)).setCell ⟨w.heap.size+1+1+1,1,none⟩ (.slice p4 0 c4)=w7:=⟨_,rfl⟩
    obtain⟨E0,E1,E2,E3,z6,z7⟩:=put4 HV4.out HV5.out (by omega) HZ6.out HZ7.out hw7
    have hb7:Below w.heap.size w w7:=by rw[← hw7];exact below_put4 HB9.out (by omega) (by omega) _ _ _ _
    go_wp2
    try rw[hw7]
    try simp only[Exit.inBlock,Exit.then]
    refine bodyPost_ret (by simp[results,Tryz.results160,go_sem,E0,E1,E2,E3];try rfl) rfl ?_
    exact⟨⟨s6,p6,n6,c6,false,p4,0,c4,rfl,HQV.out▸z6,HRV.out▸z7⟩,hb7⟩
theorem c_rDivided (s:Bool) (p:Option Addr) (n c:Nat) (x:Int) (t:Bool) (q:Option Addr) (m d:Nat) (y:Int) (w:World) (h:Zr w s p n c x) (h':Zr w t q m d y) (hn:n≤4398046511000) (hm:m≤4398046511000) (hy:y≠0):
  Calls Tryz.prog 135 #[.agg #[.bool s,.slice p n c],.agg #[.bool t,.slice q m d]] w fun e w'=>RetZ w' e (x / y)∧Below w.heap.size w w':=by
 have HC:=Kh (fun w1 (hb:Below w.heap.size w w1)=>c_Euclid s p n c x t q m d y w1 (h.keep hb) (h'.keep hb) hn hm hy)
 clear h h' hy
 go_enter Tryz.func135,Tryz.ntmps135
 go_wp2_with fail
 obtain⟨w0,hw0,X0,X1,X2,hb0⟩:=bx3 w #[.bool s,.slice p n c] 65 #[.bool t,.slice q m d] 65 #[.bool false,.slice none 0 0] 65
 rw[hw0]
 have HV2:=Kh (Var2.of X2 (NotInt.bool _) (NotInt.slice _ _ _))
 have HB0:=Kh hb0
 clear hw0 X0 X1 X2 hb0
 refine(HC.out _ HB0.out).mono ?_
 rintro e w1 ⟨⟨s5,p5,n5,c5,s6,p6,n6,c6,rfl,hz5,hz6⟩,hb1⟩
 replace HV2:=Kh (HV2.out.next hb1)
 have HB1:=bt HB0 hb1
 obtain⟨wa,hwa⟩:∃ wa,(w1.alloc (.cells #[.bool s5,.slice p5 n5 c5] 65)).alloc (.cells #[.bool s6,.slice p6 n6 c6] 65)=wa:=⟨_,rfl⟩
 obtain⟨Y0,Y1,hba⟩:=box2 w1 #[.bool s5,.slice p5 n5 c5] 65 #[.bool s6,.slice p6 n6 c6] 65
 rw[hwa]at Y0 Y1 hba
 have a0:=Y0.at_ 0 rfl
 have a1:=Y0.at_ 1 rfl
 have V:=HV2.out.next hba
 obtain⟨⟨u0,hu0⟩,⟨u1,hu1⟩⟩:=V.cells
 have f0:=V.free 0
 have f1:=V.free 1
 have HZ:=Kh ((hz5.keep hba).put2 V.sts 0 1 (.bool s5) (.slice p5 n5 c5) (NotInt.bool _))
 have HB:=Kh (((HB1.out.trans (hba.mono HB1.out.size)).setCell (show w.heap.size≤(⟨w.heap.size+1+1,0,none⟩:Addr).block by show w.heap.size≤w.heap.size+1+1;omega) (.bool s5)).setCell (show w.heap.size≤(⟨w.heap.size+1+1,1,none⟩:Addr).block by show w.heap.size≤w.heap.size+1+1;omega) (.slice p5 n5 c5))
 clear hz5 hz6 hb1 HC HB0 HV2 HB1 Y0 Y1 hba V
 go_wp2
 try simp only[Exit.inBlock,Exit.then]
 refine bodyPost_ret (by simp[results,Tryz.results135,go_sem,hu0,hu1];try rfl) rfl ?_
 exact⟨⟨s5,p5,n5,c5,rfl,HZ.out⟩,HB.out⟩
end Go.Proofs.YtijgdhijdfgpfaaGreatDoor
