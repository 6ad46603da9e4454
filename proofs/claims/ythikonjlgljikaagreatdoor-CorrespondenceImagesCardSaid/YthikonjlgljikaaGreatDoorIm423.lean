/- Contract of halfplaneref01.Divided, where the divisor is not 0. Contract of halfplaneref01.Gcd. -/
import Derived.Test.YthikonjlgljikaaGreatDoorIm422
namespace Go.Proofs.YthikonjlgljikaaGreatDoor
open Go.RowKit

set_option maxHeartbeats 2000000 in
set_option maxRecDepth 100000 in
theorem c_rDivided (s : Bool) (p : Option Addr) (n c : Nat) (x : Int) (t : Bool) (q : Option Addr) (m d : Nat) (y : Int) (w : World) (h : Zr w s p n c x) (h' : Zr w t q m d y) (hn : n ≤ 4398046511000) (hm : m ≤ 4398046511000) (hy : y ≠ 0) :
    Calls Tryz.prog 164 #[.agg #[.bool s, .slice p n c], .agg #[.bool t, .slice q m d]] w fun e w' => RetZ w' e (x / y) ∧ Below w.heap.size w w' := by
  have HC := Lib.hid (fun w1 (hb : Below w.heap.size w w1) => c_Euclid s p n c x t q m d y w1 (h.keep hb) (h'.keep hb) hn hm hy)
  clear h h' hy
  go_enter Tryz.func164, Tryz.ntmps164
  go_wp2_with fail
  obtain ⟨w0, hw0⟩ : ∃ w0, (((w.alloc (.cells #[.bool s, .slice p n c] 33)).alloc (.cells #[.bool t, .slice q m d] 33)).alloc (.cells #[.bool false, .slice none 0 0] 33)) = w0 := ⟨_, rfl⟩
  rw [hw0]
  obtain ⟨X0, X1, X2, hb0⟩ := box3 w #[.bool s, .slice p n c] 33 #[.bool t, .slice q m d] 33 #[.bool false, .slice none 0 0] 33
  rw [hw0] at X0 X1 X2 hb0
  have HV2 := Lib.hid (Var2.of X2 (NotInt.bool _) (NotInt.slice _ _ _))
  have HB0 := Lib.hid hb0
  clear hw0 X0 X1 X2 hb0
  refine (HC.out _ HB0.out).mono ?_
  rintro e w1 ⟨⟨s5, p5, n5, c5, s6, p6, n6, c6, rfl, hz5, hz6⟩, hb1⟩
  replace HV2 := Lib.hid (HV2.out.next hb1)
  have HB1 := Lib.hid (HB0.out.trans (hb1.mono HB0.out.size))
  obtain ⟨wa, hwa⟩ : ∃ wa, (w1.alloc (.cells #[.bool s5, .slice p5 n5 c5] 33)).alloc (.cells #[.bool s6, .slice p6 n6 c6] 33) = wa := ⟨_, rfl⟩
  obtain ⟨Y0, Y1, hba⟩ := box2 w1 #[.bool s5, .slice p5 n5 c5] 33 #[.bool s6, .slice p6 n6 c6] 33
  rw [hwa] at Y0 Y1 hba
  have a0 := Y0.at_ 0 rfl
  have a1 := Y0.at_ 1 rfl
  have V := HV2.out.next hba
  obtain ⟨⟨u0, hu0⟩, ⟨u1, hu1⟩⟩ := V.cells
  have f0 := V.free 0
  have f1 := V.free 1
  have HZ := Lib.hid ((hz5.keep hba).put2 V.sts 0 1 (.bool s5) (.slice p5 n5 c5) (NotInt.bool _))
  have HB := Lib.hid (((HB1.out.trans (hba.mono HB1.out.size)).setCell (show w.heap.size ≤ (⟨w.heap.size + 1 + 1, 0, none⟩ : Addr).block by show w.heap.size ≤ w.heap.size + 1 + 1; omega) (.bool s5)).setCell (show w.heap.size ≤ (⟨w.heap.size + 1 + 1, 1, none⟩ : Addr).block by show w.heap.size ≤ w.heap.size + 1 + 1; omega) (.slice p5 n5 c5))
  clear hz5 hz6 hb1 HC HB0 HV2 HB1 Y0 Y1 hba V
  go_wp2
  try simp only [Exit.inBlock, Exit.then]
  refine bodyPost_ret (by simp [results, Tryz.results164, go_sem, hu0, hu1]; try rfl) rfl ?_
  exact ⟨⟨s5, p5, n5, c5, rfl, HZ.out⟩, HB.out⟩
end Go.Proofs.YthikonjlgljikaaGreatDoor
namespace Go.Proofs.YthikonjlgljikaaGreatDoor
open Go.RowKit

set_option maxHeartbeats 1000000 in
set_option maxRecDepth 100000 in
theorem c_rGcd (s : Bool) (p : Option Addr) (n c : Nat) (x : Int) (t : Bool) (q : Option Addr) (m d : Nat) (y : Int) (w : World) (h : Zr w s p n c x) (h' : Zr w t q m d y) (hn : n ≤ 4398046511000) (hm : m ≤ 4398046511000) :
    Calls Tryz.prog 160 #[.agg #[.bool s, .slice p n c], .agg #[.bool t, .slice q m d]] w fun e w' => RetZ w' e (Int.gcd x y : Nat) ∧ Below w.heap.size w w' := by
  have HX := Lib.hid (Nat.le_trans h.size hn)
  have HY := Lib.hid (Nat.le_trans h'.size hm)
  obtain ⟨u, hu⟩ : ∃ u, x.natAbs = u := ⟨_, rfl⟩
  obtain ⟨v, hv⟩ : ∃ v, y.natAbs = v := ⟨_, rfl⟩
  obtain ⟨G, hG⟩ : ∃ G, Int.gcd x y = G := ⟨_, rfl⟩
  have hGuv : Nat.gcd u v = G := by rw [← hG, ← hu, ← hv]; rfl
  rw [hG]
  have HN1 := Lib.hid (fun w1 (hb : Below w.heap.size w w1) => c_rAbs s p n c x w1 (h.keep hb) (by omega))
  have HN2 := Lib.hid (fun w1 (hb : Below w.heap.size w w1) => c_rAbs t q m d y w1 (h'.keep hb) (by omega))
  rw [hu] at HX HN1
  rw [hv] at HY HN2
  have HG := Lib.hid hGuv
  clear h h' hu hv hG hGuv
  go_enter Tryz.func160, Tryz.ntmps160
  go_upto_region 1 with (fail)
  obtain ⟨wc, hwc⟩ : ∃ wc, (((w.alloc (.cells #[.bool s, .slice p n c] 33)).alloc (.cells #[.bool t, .slice q m d] 33)).alloc (.cells #[.bool false, .slice none 0 0] 33)) = wc := ⟨_, rfl⟩
  rw [hwc]
  obtain ⟨X0, X1, X2, hb0⟩ := box3 w #[.bool s, .slice p n c] 33 #[.bool t, .slice q m d] 33 #[.bool false, .slice none 0 0] 33
  rw [hwc] at X0 X1 X2 hb0
  have hs0 : w.heap.size ≤ wc.heap.size := hb0.size
  clear hwc
  have HBC := Lib.hid hb0
  have HR0 := Lib.hid X2
  have hlt : w.heap.size + 1 + 1 < wc.heap.size := X2.lt
  clear X2
  go_cut [5, 6] from 11 to 14 (fun v5 v6 wd => ∃ g5 g6, v5 = .pointer (some ⟨g5, 0, none⟩) ∧ v6 = .pointer (some ⟨g6, 0, none⟩) ∧ g5 ≠ g6 ∧ wc.heap.size ≤ g5 ∧ wc.heap.size ≤ g6 ∧ TwoZ wd g5 g6 (u : Int) (v : Int) ∧ Below wc.heap.size wc wd)
  case first =>
    have hS1 : wc.cell? ⟨w.heap.size, 0, none⟩ = some (.bool s) ∧ wc.cell? ⟨w.heap.size, 1, none⟩ = some (.slice p n c) ∧ wc.cell? ⟨w.heap.size + 1, 0, none⟩ = some (.bool t) ∧ wc.cell? ⟨w.heap.size + 1, 1, none⟩ = some (.slice q m d) ∧ Below wc.heap.size wc wc ∧ wc.heap.size ≤ wc.heap.size := ⟨X0.at_ 0 rfl, X0.at_ 1 rfl, X1.at_ 0 rfl, X1.at_ 1 rfl, Below.refl _ _, Nat.le_refl _⟩
    have hS0 : wc.drew.cell? ⟨w.heap.size, 0, none⟩ = some (.bool s) ∧ wc.drew.cell? ⟨w.heap.size, 1, none⟩ = some (.slice p n c) ∧ wc.drew.cell? ⟨w.heap.size + 1, 0, none⟩ = some (.bool t) ∧ wc.drew.cell? ⟨w.heap.size + 1, 1, none⟩ = some (.slice q m d) ∧ Below wc.heap.size wc wc.drew ∧ wc.heap.size ≤ wc.drew.heap.size := S4_0_next (Below.refl _ wc).drew hS1
    clear X0 X1
    have M1 : True := trivial
    go_region_held3 (fun w1 => w1.cell? ⟨w.heap.size, 0, none⟩ = some (.bool s) ∧ w1.cell? ⟨w.heap.size, 1, none⟩ = some (.slice p n c) ∧ w1.cell? ⟨w.heap.size + 1, 0, none⟩ = some (.bool t) ∧ w1.cell? ⟨w.heap.size + 1, 1, none⟩ = some (.slice q m d) ∧ Below wc.heap.size wc w1 ∧ wc.heap.size ≤ w1.heap.size)
      (first | with_reducible exact hS0 | (refine S4_0_next (by with_reducible assumption) ?_; assumption) | exact S4_0_next (by go_grown) hS1)
      (first
        | (go_at_call 204; clear M1; refine (HN1.out _ (HBC.out.trans ((S4_0_below (by with_reducible assumption)).mono HBC.out.size))).mono ?_; rintro e w2 ⟨⟨s2, p2, n2, e2, rfl, hz2⟩, hb2⟩; have HA2 := Lib.hid hz2; have hz2s : wc.heap.size ≤ w2.heap.size := Nat.le_trans (S4_0_size (by with_reducible assumption)) (Below.size hb2); have hw2 : Below wc.heap.size wc w2 := Below.trans (S4_0_below (by with_reducible assumption)) (Below.mono hb2 (S4_0_size (by with_reducible assumption))); (first | have fa := fr2 (B := wc.heap.size) (W := wc.drew) (g := wc.heap.size) rfl (Nat.le_refl _) hb2 | have fa := fr1 (B := wc.heap.size) (W := wc.drew) (g := wc.heap.size) rfl (Nat.le_refl _) hb2 | skip); (try have fb := fr1 (B := wc.heap.size) (W := wc.drew.alloc (.cells #[.bool false, .slice none 0 0] 33)) (g := wc.heap.size + 1) (by simp) (by omega) hb2); clear hz2)
        | (go_at_call 204; refine (HN2.out _ (HBC.out.trans ((S4_0_below (by with_reducible assumption)).mono HBC.out.size))).mono ?_; rintro e w3 ⟨⟨s3, p3, n3, e3, rfl, hz3⟩, hb3⟩; have HA3 := Lib.hid (show Zs w3 s2 p2 n2 e2 (u : Int) ∧ Zs w3 s3 p3 n3 e3 (v : Int) from ⟨by first | exact HA2.out.keep hb3 | exact (HA2.out.keep ((Below.refl _ _).alloc (Nat.le_refl _) _)).keep hb3 | exact ((HA2.out.keep ((Below.refl _ _).alloc (Nat.le_refl _) _)).keep ((Below.refl _ _).alloc (Nat.le_refl _) _)).keep hb3, hz3⟩); have hz3s : wc.heap.size ≤ w3.heap.size := Nat.le_trans (S4_0_size (by with_reducible assumption)) (Below.size hb3); have hw3 : Below wc.heap.size wc w3 := Below.trans (S4_0_below (by with_reducible assumption)) (Below.mono hb3 (S4_0_size (by with_reducible assumption))); (first | have ga := frn0 fa hb3 | have ga := frn1 fa hb3 | skip); (try have gb := frn0 fb hb3); (first | have gc := fr2 (B := wc.heap.size) (W := w2) (g := w2.heap.size) rfl hz2s hb3 | have gc := fr1 (B := wc.heap.size) (W := w2) (g := w2.heap.size) rfl hz2s hb3 | skip); (try have gd := fr1 (B := wc.heap.size) (W := w2.alloc (.cells #[.bool false, .slice none 0 0] 33)) (g := w2.heap.size + 1) (by simp) (by omega) hb3); (try have ha1 := fun o => fr_al ga o); (try have hb1 := fun o => fr_al gb o); (try have hc1 := fun o => fr_al gc o); (try have hd1 := fun o => fr_al gd o); have hnn := fr_new hz3s; (try have qga := And.intro (Nat.ne_of_lt ga.2.2.2.2.2.lt) (Nat.ne_of_gt ga.2.2.2.2.2.lt)); (try have qgb := And.intro (Nat.ne_of_lt gb.2.2.2.2.2.lt) (Nat.ne_of_gt gb.2.2.2.2.2.lt)); (try have qgc := And.intro (Nat.ne_of_lt gc.2.2.2.2.2.lt) (Nat.ne_of_gt gc.2.2.2.2.2.lt)); (try have qgd := And.intro (Nat.ne_of_lt gd.2.2.2.2.2.lt) (Nat.ne_of_gt gd.2.2.2.2.2.lt)); (try have qfa := And.intro (Nat.ne_of_lt fa.2.2.2.2.2.lt) (Nat.ne_of_gt fa.2.2.2.2.2.lt)); (try have qfb := And.intro (Nat.ne_of_lt fb.2.2.2.2.2.lt) (Nat.ne_of_gt fb.2.2.2.2.2.lt)); (try have hb2s := Below.size hb2); (try have hb3s := Below.size hb3); clear hz3 HA2))
    all_goals go_wp2
    all_goals go_meet
    all_goals refine ⟨_, _, rfl, rfl, ?_, ?_, ?_, ?_, ?_⟩
    all_goals first
      | (with_reducible exact two_new12 HA3.out)
      | (with_reducible exact two_new21 HA3.out)
      | (with_reducible exact two_half ga.2.2.2.2.2 HA3.out)
      | (with_reducible exact two_half gb.2.2.2.2.2 HA3.out)
      | (with_reducible exact two_half gc.2.2.2.2.2 HA3.out)
      | (with_reducible exact two_half gd.2.2.2.2.2 HA3.out)
      | (with_reducible exact two_top ga.2.2.2.2.2 HA3.out)
      | (with_reducible exact two_top gb.2.2.2.2.2 HA3.out)
      | (with_reducible exact two_top gc.2.2.2.2.2 HA3.out)
      | (with_reducible exact two_top gd.2.2.2.2.2 HA3.out)
      | (with_reducible exact two_put (by omega) ga.2.2.2.2.2 gb.2.2.2.2.2 HA3.out.1 HA3.out.2)
      | (with_reducible exact two_put (by omega) ga.2.2.2.2.2 gc.2.2.2.2.2 HA3.out.1 HA3.out.2)
      | (with_reducible exact two_put (by omega) ga.2.2.2.2.2 gd.2.2.2.2.2 HA3.out.1 HA3.out.2)
      | (with_reducible exact two_put (by omega) gb.2.2.2.2.2 ga.2.2.2.2.2 HA3.out.1 HA3.out.2)
      | (with_reducible exact two_put (by omega) gb.2.2.2.2.2 gc.2.2.2.2.2 HA3.out.1 HA3.out.2)
      | (with_reducible exact two_put (by omega) gb.2.2.2.2.2 gd.2.2.2.2.2 HA3.out.1 HA3.out.2)
      | (with_reducible exact two_put (by omega) gc.2.2.2.2.2 ga.2.2.2.2.2 HA3.out.1 HA3.out.2)
      | (with_reducible exact two_put (by omega) gc.2.2.2.2.2 gb.2.2.2.2.2 HA3.out.1 HA3.out.2)
      | (with_reducible exact two_put (by omega) gc.2.2.2.2.2 gd.2.2.2.2.2 HA3.out.1 HA3.out.2)
      | (with_reducible exact two_put (by omega) gd.2.2.2.2.2 ga.2.2.2.2.2 HA3.out.1 HA3.out.2)
      | (with_reducible exact two_put (by omega) gd.2.2.2.2.2 gb.2.2.2.2.2 HA3.out.1 HA3.out.2)
      | (with_reducible exact two_put (by omega) gd.2.2.2.2.2 gc.2.2.2.2.2 HA3.out.1 HA3.out.2)
      | omega
      | go_grown
  case rest =>
    obtain ⟨gx, gy, rfl, rfl, hne, hg5, hg6, ⟨s1, p1, n1, c1, t1, q1, m1, d1, XA, XB, zx, zy⟩, hbd⟩ := hcut
    have hlt5 : w.heap.size + 1 + 1 < gx := by omega
    have hlt6 : w.heap.size + 1 + 1 < gy := by omega
    have XR := HR0.out.below_ hbd HR0.out.lt
    have hbw := HBC.out.trans (hbd.mono HBC.out.size)
    clear HN1 HN2 X0 X1 hb0 hs0 HBC HR0
    have a1 : wc.cell? ⟨gx, 1, none⟩ = some (.slice p1 n1 c1) := XA.at_ 1 rfl
    have b1 : wc.cell? ⟨gy, 1, none⟩ = some (.slice q1 m1 d1) := XB.at_ 1 rfl
    have hnu : nd u = n1 := zx.2.1
    have hnv : nd v = m1 := zy.2.1
    by_cases hsm : n1 ≤ 2 ∧ m1 ≤ 2
    · obtain ⟨hs1, hs2⟩ := hsm
      have hs1i : (n1 : Int) ≤ 2 := by omega
      have hs2i : (m1 : Int) ≤ 2 := by omega
      have hd1 : Dg wc p1 c1 n1 (dg u) := by have h1 := zx.2.2; unfold Nm at h1; rw [Int.natAbs_natCast, hnu] at h1; exact h1
      have hd2 : Dg wc q1 d1 m1 (dg v) := by have h1 := zy.2.2; unfold Nm at h1; rw [Int.natAbs_natCast, hnv] at h1; exact h1
      have hW1 := fun k => c_rword p1 c1 n1 (dg u) (wc.drewN k) (hd1.keep (below_drewN' (Below.refl _ _) k)) hs1
      have hW2 := fun k => c_rword q1 d1 m1 (dg v) (wc.drewN k) (hd2.keep (below_drewN' (Below.refl _ _) k)) hs2
      rw [show vf (dg u) n1 = u by rw [← hnu, vf_nd]] at hW1
      rw [show vf (dg v) m1 = v by rw [← hnv, vf_nd]] at hW2
      have hul : u < 18446744073709551616 := nd_le_two (by omega)
      have hvl : v < 18446744073709551616 := nd_le_two (by omega)
      have HW1 := Lib.hid hW1
      have HW2 := Lib.hid hW2
      have HUV := Lib.hid (And.intro hul hvl)
      have HXR := Lib.hid XR
      have HBW := Lib.hid hbw
      clear hW1 hW2 hul hvl XA XB XR hbw zx zy hnu hnv hd1 hd2 HX HY hbd
      go_wp2
      go_quiet (first | with_reducible exact Calls.quiet_of_same (HW1.out _) | with_reducible exact Calls.quiet_of_same (HW2.out _))
      go_wp2
      go_loopw [7, 8] (fun v7 v8 wi => ∃ x y : Nat, v7 = .int .u64 x ∧ v8 = .int .u64 y ∧ Nat.gcd x y = G ∧ RowKit.Hid (x < 18446744073709551616 ∧ y < 18446744073709551616) ∧ ∃ k, wi = wc.drewN k) (fun _ v8 _ => (intOf v8).toNat)
      case atStart => exact ⟨u, v, rfl, rfl, HG.out, Lib.hid HUV.out, _, rfl⟩
      case round =>
        clear HG HUV HW1 HW2
        obtain ⟨x, y, rfl, rfl, hg, HXY, kr, rfl⟩ := hrel
        by_cases hy0 : y = 0
        · subst hy0
          rw [Nat.gcd_zero_right] at hg
          subst hg
          have HW := Lib.hid (fun w => c_rsplit x w HXY.out.1)
          clear a1 b1
          go_wp2_with fail
          refine (HW.out _).mono ?_
          rintro e w4 ⟨⟨p4, c4, rfl, hm4⟩, hb4⟩
          obtain ⟨n4, hn4⟩ : ∃ n4, nd x = n4 := ⟨_, rfl⟩
          have hd4 : Dg w4 p4 c4 n4 (dg x) := by unfold Nm at hm4; rw [hn4] at hm4; exact hm4
          have hS := c_rsigned false p4 c4 n4 (dg x) w4 hd4 (by rw [← hn4]; exact Nat.le_trans (nd_le.2 HXY.out.1) (by decide : (2 : Nat) ≤ _))
          rw [show vf (dg x) n4 = x by rw [← hn4, vf_nd], sg_false] at hS
          rw [hn4]
          have HS := Lib.hid hS
          have HB4 := Lib.hid ((below_drewN' HBW.out kr).trans (hb4.mono (by simpa using HBW.out.size)))
          have HV4 := Lib.hid (Var2.next (Var2.of (HXR.out.drewN_ kr) (NotInt.bool _) (NotInt.slice _ _ _)) hb4)
          clear hm4 hb4 hd4 hS HW HXY hn4
          go_wp2_with fail
          refine HS.out.mono ?_
          rintro e w2 ⟨⟨s2, p2, n2, c2, rfl, hz2⟩, hb2⟩
          have HVR := Lib.hid (HV4.out.next hb2)
          have HB2 := Lib.hid (HB4.out.trans (hb2.mono HB4.out.size))
          clear hb2 HS HB4 HV4
          obtain ⟨⟨u0, hu0⟩, ⟨u1, hu1⟩⟩ := HVR.out.cells
          have f0 := HVR.out.free 0
          have f1 := HVR.out.free 1
          have hz3 := hz2.put2 HVR.out.sts 0 1 (.bool s2) (.slice p2 n2 c2) (NotInt.bool _)
          have hb3 : Below w.heap.size w ((w2.setCell ⟨w.heap.size + 1 + 1, 0, none⟩ (.bool s2)).setCell ⟨w.heap.size + 1 + 1, 1, none⟩ (.slice p2 n2 c2)) := (HB2.out.setCell (by show w.heap.size ≤ w.heap.size + 1 + 1; omega) _).setCell (by show w.heap.size ≤ w.heap.size + 1 + 1; omega) _
          have HZ3 := Lib.hid hz3
          have HB3 := Lib.hid hb3
          clear hz2 hz3 hb3
          go_wp2
          try simp only [Exit.inBlock, Exit.then]
          refine bodyPost_ret (by simp [results, Tryz.results160, go_sem, hu0, hu1]; try rfl) rfl ?_
          exact ⟨⟨s2, p2, n2, c2, rfl, HZ3.out⟩, HB3.out⟩
        · obtain ⟨r, hr⟩ : ∃ r, x % y = r := ⟨_, rfl⟩
          have hrl : r < y := by rw [← hr]; exact Nat.mod_lt _ (by omega)
          have hrt : Int.tmod (x : Int) (y : Int) = (r : Nat) := by rw [Int.tmod_eq_emod_of_nonneg (by omega), ← hr]; exact (Int.natCast_emod _ _).symm
          have hrt2 : (x : Int) % (y : Int) = (r : Nat) := by rw [← hr]; exact (Int.natCast_emod _ _).symm
          have hnew : Nat.gcd y r = G := by rw [← hg, ← hr, Nat.gcd_comm x y, Nat.gcd_rec y x, Nat.gcd_comm]
          have HN := Lib.hid hnew
          have hyb : ((y : Int) != 0) = true := by rw [bne_iff_ne]; omega
          have hy1 : (y : Int) ≠ 0 := by omega
          have hy2 : (0 : Int) < (y : Int) := by omega
          have HRL := Lib.hid hrl
          clear hnew hr hg hrl a1 b1
          go_wp2
          go_quiet (fail)
          go_wp2
          go_roundw
          case rel => exact ⟨y, r, rfl, rfl, HN.out, Lib.hid ⟨HXY.out.2, by have := HXY.out.2; have := HRL.out; omega⟩, _, by first | rfl | rw [dr2]⟩
          case measure => simp [intOf]; exact HRL.out
    · have HXA := Lib.hid XA
      have HXB := Lib.hid XB
      have HXR := Lib.hid XR
      have HBW := Lib.hid hbw
      have HZX := Lib.hid zx
      have HZY := Lib.hid zy
      clear XA XB XR hbw zx zy hbd
      go_upto_block 2 with fail
      all_goals clear hsm hnu hnv a1 b1
      all_goals go_step
      all_goals
        go_loopg [] v (fun b wr => ∃ a : Nat, Nat.gcd a b = G ∧ nd a ≤ 4398046511000 ∧ nd b ≤ 4398046511000 ∧ TwoZ wr gx gy (a : Int) (b : Int) ∧ Blk wr (w.heap.size + 1 + 1) 33 #[.bool false, .slice none 0 0] ∧ Below w.heap.size w wr)
        case atStart => exact ⟨u, HG.out, HX.out, HY.out, ⟨_, _, _, _, _, _, _, _, HXA.out, HXB.out, HZX.out, HZY.out⟩, HXR.out, HBW.out⟩
        case round =>
          clear HXA HXB HXR HBW HZX HZY HX HY HG
          obtain ⟨a, hg, hal, hbl, ⟨s5, p5, n5, c5, s6, p6, n6, c6, YA, YB, zx, zy⟩, YR, hb⟩ := hrel
          have hn6 : nd gk = n6 := zy.2.1
          have b1 : wr.cell? ⟨gy, 1, none⟩ = some (.slice p6 n6 c6) := YB.at_ 1 rfl
          have b0 : wr.cell? ⟨gy, 0, none⟩ = some (.bool s6) := YB.at_ 0 rfl
          have a1 : wr.cell? ⟨gx, 1, none⟩ = some (.slice p5 n5 c5) := YA.at_ 1 rfl
          have a0 : wr.cell? ⟨gx, 0, none⟩ = some (.bool s5) := YA.at_ 0 rfl
          by_cases h0 : n6 = 0
          · subst h0
            obtain rfl : gk = 0 := by
              have := nd_pos (v := gk); omega
            rw [Nat.gcd_zero_right] at hg
            subst hg
            have V := Var2.of YR (NotInt.bool _) (NotInt.slice _ _ _)
            have HVR := Lib.hid V
            have HB2 := Lib.hid hb
            have hz2 := zx
            clear zx zy YA YB YR hb V hn6
            obtain ⟨⟨u0, hu0⟩, ⟨u1, hu1⟩⟩ := HVR.out.cells
            have f0 := HVR.out.free 0
            have f1 := HVR.out.free 1
            have hz3 := hz2.put2 HVR.out.sts 0 1 (.bool s5) (.slice p5 n5 c5) (NotInt.bool _)
            have hb3 : Below w.heap.size w ((wr.setCell ⟨w.heap.size + 1 + 1, 0, none⟩ (.bool s5)).setCell ⟨w.heap.size + 1 + 1, 1, none⟩ (.slice p5 n5 c5)) := (HB2.out.setCell (by show w.heap.size ≤ w.heap.size + 1 + 1; omega) _).setCell (by show w.heap.size ≤ w.heap.size + 1 + 1; omega) _
            have HZ3 := Lib.hid hz3
            have HB3 := Lib.hid hb3
            clear hz2 hz3 hb3
            go_wp2
            try simp only [Exit.inBlock, Exit.then]
            refine bodyPost_ret (by simp [results, Tryz.results160, go_sem, hu0, hu1]; try rfl) rfl ?_
            exact ⟨⟨s5, p5, n5, c5, rfl, HZ3.out⟩, HB3.out⟩
          · have h0i : (0 : Int) < (n6 : Int) := by omega
            have hb0 : gk ≠ 0 := nd_pos.1 (by omega)
            have hE := c_Euclid s5 p5 n5 c5 a s6 p6 n6 c6 gk wr zx.raw zy.raw (by rw [← zx.2.1]; exact hal) (by omega) (by omega)
            have hrl : a % gk < gk := Nat.mod_lt _ (by omega)
            have hmod : (a : Int) % (gk : Int) = ((a % gk : Nat) : Int) := (Int.natCast_emod _ _).symm
            have hnew : Nat.gcd gk (a % gk) = G := by rw [← hg, Nat.gcd_comm a gk, Nat.gcd_rec gk a, Nat.gcd_comm]
            rw [hmod] at hE
            obtain ⟨r, hr⟩ : ∃ r, a % gk = r := ⟨_, rfl⟩
            rw [hr] at hE hrl hnew
            have HE := Lib.hid hE
            have HYA := Lib.hid YA
            have HYB := Lib.hid YB
            have HYR := Lib.hid YR
            have HB := Lib.hid hb
            have HN := Lib.hid (And.intro hnew hrl)
            have HBL := Lib.hid hbl
            have HZB := Lib.hid zy
            clear hE YA YB YR hb hnew hrl hmod hr zx zy hg hal hbl hn6
            go_wp2_with fail
            refine HE.out.mono ?_
            rintro e w1 ⟨⟨s7, p7, n7, c7, s8, p8, n8, c8, rfl, hz7, hz8⟩, hb1⟩
            obtain ⟨wa, hwa⟩ : ∃ wa, (w1.alloc (.cells #[.bool s7, .slice p7 n7 c7] 33)).alloc (.cells #[.bool s8, .slice p8 n8 c8] 33) = wa := ⟨_, rfl⟩
            obtain ⟨Y0, Y1, hba⟩ := box2 w1 #[.bool s7, .slice p7 n7 c7] 33 #[.bool s8, .slice p8 n8 c8] 33
            rw [hwa] at Y0 Y1 hba
            obtain ⟨gr, hgr⟩ : ∃ g, w1.heap.size + 1 = g := ⟨_, rfl⟩
            rw [hgr] at Y1
            have hgl : w1.heap.size < gr := by omega
            have hba1 := hb1.trans (hba.mono hb1.size)
            have hgxl := HYA.out.lt
            have hgyl := HYB.out.lt
            have h1s := hb1.size
            have ZA := HYA.out.below_ hba1 hgxl
            have ZB := HYB.out.below_ hba1 hgyl
            have ZR := HYR.out.below_ hba1 HYR.out.lt
            have e0 : wa.cell? ⟨gx, 0, none⟩ = some (.bool s5) := ZA.at_ 0 rfl
            have e1 : wa.cell? ⟨gx, 1, none⟩ = some (.slice p5 n5 c5) := ZA.at_ 1 rfl
            have e2 : wa.cell? ⟨gy, 0, none⟩ = some (.bool s6) := ZB.at_ 0 rfl
            have e3 : wa.cell? ⟨gy, 1, none⟩ = some (.slice p6 n6 c6) := ZB.at_ 1 rfl
            have e4 : wa.cell? ⟨gr, 0, none⟩ = some (.bool s8) := Y1.at_ 0 rfl
            have e5 : wa.cell? ⟨gr, 1, none⟩ = some (.slice p8 n8 c8) := Y1.at_ 1 rfl
            have f0 := ZA.free_ 0
            have f1 := ZA.free_ 1
            have f2 := ZB.free_ 0
            have f3 := ZB.free_ 1
            have hgx : gx ≠ gr := by omega
            have hgy : gy ≠ gr := by omega
            have HT := Lib.hid (two_put (s := s6) (p := p6) (n := n6) (c := c6) (t := s8) (q := p8) (m := n8) (d := c8) hne ZA ZB ((HZB.out.keep hba1)) (hz8.keep hba))
            have HR2 := Lib.hid ((((ZR.far_ (p := ⟨gx, 0, none⟩) (Nat.ne_of_lt hlt5) (.bool s6)).far_ (p := ⟨gx, 1, none⟩) (Nat.ne_of_lt hlt5) (.slice p6 n6 c6)).far_ (p := ⟨gy, 0, none⟩) (Nat.ne_of_lt hlt6) (.bool s8)).far_ (p := ⟨gy, 1, none⟩) (Nat.ne_of_lt hlt6) (.slice p8 n8 c8))
            have HB2 := Lib.hid (below_put4 (A := gx) (B := gy) (HB.out.trans (hba1.mono HB.out.size)) (by omega) (by omega) (.bool s6) (.slice p6 n6 c6) (.bool s8) (.slice p8 n8 c8))
            clear HE HYA HYB HYR HB HZB hz7 hz8 hb1 hba hba1 Y0 Y1 ZA ZB ZR a0 a1 b0 b1
            go_wp2
            try rw [hwa]
            try rw [hgr]
            clear hwa hgr
            go_wp2
            go_roundg r
            case measure => exact HN.out.2
            case rel => exact ⟨gk, HN.out.1, HBL.out, Nat.le_trans (nd_mono (Nat.le_of_lt HN.out.2)) HBL.out, HT.out, HR2.out, HB2.out⟩
end Go.Proofs.YthikonjlgljikaaGreatDoor
