/- Contract of bigint's divide. -/
import Derived.Test.YthikonjlgljikaaGreatDoorLs12
namespace Go.Proofs.YthikonjlgljikaaGreatDoor
open Go.RowKit

theorem Dg.nm {w : World} {p : Option Addr} {c k t : Nat} {r : Nat → Nat} (h : Dg w p c k r) (hv : vf r k = t) (hk : nd t = k) : Nm w p c t := by
  unfold Nm
  rw [hk]
  exact h.congr (by rw [← hv]; exact dg_vf h.lt)
theorem Nm.drewN {w : World} {p : Option Addr} {c v : Nat} (h : Nm w p c v) (n : Nat) : Nm (w.drewN n) p c v := h.keep (below_drewN' (Below.refl _ _) n)
theorem nn_small {w : World} {p : Option Addr} {c u v : Nat} (h : Nm w p c u) (huv : u < v) : RetNN w (.returned (.tuple #[.slice none 0 0, .slice p (nd u) c])) (u / v) (u % v) := by
  rw [Nat.div_eq_of_lt huv, Nat.mod_eq_of_lt huv]
  exact ⟨none, 0, p, c, rfl, Nm.nil _, h⟩
/-- A slice without leading zeros is returned; its length is a letter. -/
def RetO (w' : World) (e : Ending) (v : Nat) : Prop := ∃ p n c, e = .returned (.slice p n c) ∧ nd v = n ∧ Nm w' p c v
theorem RetN.op {w' : World} {e : Ending} {v : Nat} (h : RetN w' e v) : RetO w' e v := by
  obtain ⟨p, c, h1, h2⟩ := h
  exact ⟨p, _, c, h1, rfl, h2⟩
theorem nn_of {w : World} {p p' : Option Addr} {c c' n n' q r : Nat} (h1 : nd q = n) (h2 : nd r = n') (h3 : Nm w p c q) (h4 : Nm w p' c' r) : RetNN w (.returned (.tuple #[.slice p n c, .slice p' n' c'])) q r := by
  subst h1; subst h2
  exact ⟨p, c, p', c', rfl, h3, h4⟩
set_option maxRecDepth 100000 in
theorem c_div_small (p : Option Addr) (c u : Nat) (q : Option Addr) (d v : Nat) (w : World) (h1 : Nm w p c u) (h2 : Nm w q d v) (hu : nd u ≤ 35184372088830) (hv : nd v ≤ 35184372088830) (huv : u < v) :
    Calls Tryz.prog 214 #[.slice p (nd u) c, .slice q (nd v) d] w fun e w' => RetNN w' e (u / v) (u % v) ∧ Below w.heap.size w w' := by
  have HC := c_compare p c u q d v w h1 h2 (by omega) (by omega)
  rw [cmp_lt huv] at HC
  replace HC := Lib.hid HC
  have HCL := Lib.hid (fun k => c_Clone p c (nd u) (dg u) (w.drewN k) (h1.drewN k) hu)
  have HUV := Lib.hid huv
  clear h1 h2 huv
  go_enter Tryz.func214, Tryz.ntmps214
  go_wp2_with (go_at_call 181; refine HC.out.mono ?_; rintro e w' ⟨rfl, k, rfl⟩)
  refine (HCL.out k).mono ?_
  rintro e w1 ⟨⟨p1, c1, r1, rfl, hd, hv1⟩, hb⟩
  have hn : RetNN w1 (.returned (.tuple #[.slice none 0 0, .slice p1 (nd u) c1])) (u / v) (u % v) := nn_small (hd.nm (by rw [hv1, vf_nd]) rfl) HUV.out
  have hb2 : Below w.heap.size w w1 := (below_drewN' (Below.refl _ _) k).trans hb
  have HN := Lib.hid hn
  have HB := Lib.hid hb2
  clear hd hv1 hb hn hb2
  go_wp2
  go_ret2
  exact ⟨HN.out, HB.out⟩
theorem cmp_ge {u v : Nat} (h : v ≤ u) : ∃ s : Nat, Int.sign ((u : Int) - v) = s := by
  rcases Nat.lt_or_ge v u with h1 | h1
  · exact ⟨1, cmp_gt h1⟩
  · obtain rfl : u = v := by omega
    exact ⟨0, by simp⟩
theorem c_wordN (p : Option Addr) (c u : Nat) (w : World) (h : Nm w p c u) (hn : nd u ≤ 2) :
    Calls Tryz.prog 213 #[.slice p (nd u) c] w fun e w' => e = .returned (.int .u64 (u : Nat)) ∧ ∃ k, w' = w.drewN k := by
  have := c_word p c (nd u) (dg u) w h hn
  rw [vf_nd] at this
  exact this
theorem nd_le_two {u : Nat} (h : nd u ≤ 2) : u < 18446744073709551616 := by
  have := nd_le.1 h
  omega
set_option maxHeartbeats 400000 in
set_option maxRecDepth 100000 in
theorem c_div_word (p : Option Addr) (c u : Nat) (q : Option Addr) (d v : Nat) (w : World) (h1 : Nm w p c u) (h2 : Nm w q d v) (hu : nd u ≤ 2) (hv : 0 < v) (huv : v ≤ u) :
    Calls Tryz.prog 214 #[.slice p (nd u) c, .slice q (nd v) d] w fun e w' => RetNN w' e (u / v) (u % v) ∧ Below w.heap.size w w' := by
  have hvn : nd v ≤ 2 := Nat.le_trans (nd_mono huv) hu
  obtain ⟨s, hs⟩ := cmp_ge huv
  have hsd : decide ((s : Int) < 0) = false := decide_eq_false (by omega)
  have HC := c_compare p c u q d v w h1 h2 (by omega) (by omega)
  rw [hs] at HC
  replace HC := Lib.hid HC
  have H1 := Lib.hid (fun (w1 : World) (hb : Below w.heap.size w w1) => c_wordN p c u w1 (h1.keep hb) hu)
  have H2 := Lib.hid (fun (w1 : World) (hb : Below w.heap.size w w1) => c_wordN q d v w1 (h2.keep hb) hvn)
  have hul := nd_le_two hu
  have hvl := nd_le_two hvn
  obtain ⟨Q, hQ⟩ : ∃ Q, u / v = Q := ⟨_, rfl⟩
  obtain ⟨R, hR⟩ : ∃ R, u % v = R := ⟨_, rfl⟩
  have hQl : Q ≤ u := by rw [← hQ]; exact Nat.div_le_self _ _
  have hRl : R < v := by rw [← hR]; exact Nat.mod_lt _ hv
  have HQ := Lib.hid (fun w => (c_wide Q w (by omega)).mono (fun _ _ h => And.imp_left RetN.op h))
  have HR := Lib.hid (fun w => (c_wide R w (by omega)).mono (fun _ _ h => And.imp_left RetN.op h))
  have hqt : Int.tdiv (u : Int) (v : Int) = (Q : Nat) := by rw [Int.tdiv_eq_ediv_of_nonneg (by omega), ← hQ]; exact (Int.natCast_ediv _ _).symm
  have hrt : Int.tmod (u : Int) (v : Int) = (R : Nat) := by rw [Int.tmod_eq_emod_of_nonneg (by omega), ← hR]; exact (Int.natCast_emod _ _).symm
  have hqt2 : (u : Int) / (v : Int) = (Q : Nat) := by rw [← hQ]; exact (Int.natCast_ediv _ _).symm
  have hrt2 : (u : Int) % (v : Int) = (R : Nat) := by rw [← hR]; exact (Int.natCast_emod _ _).symm
  have hqw : IntKind.u64.wrap (Q : Int) = Q := by rw [IntKind.wrap_u64]; omega
  have hv0 : ((v : Int) == 0) = false := beq_eq_false_iff_ne.2 (by omega)
  have hv1 : (v : Int) ≠ 0 := by omega
  have hv2 : v ≠ 0 := by omega
  rw [hQ, hR]
  have hn2 : (nd u : Int) ≤ 2 := by omega
  clear h1 h2 huv hul hvl hs hQ hR hQl hRl hu hvn
  generalize nd u = n at *
  generalize nd v = m at *
  go_enter Tryz.func214, Tryz.ntmps214
  go_wp2_with fail
  refine HC.out.mono ?_
  rintro e w1 ⟨rfl, hq⟩
  have B1 := quiet_below hq
  have HB1 := Lib.hid B1
  clear hq B1
  go_wp2_with fail
  refine (H1.out _ HB1.out).mono ?_
  rintro e w2 ⟨rfl, hq⟩
  have B2 := HB1.out.trans ((quiet_below hq).mono HB1.out.size)
  have HB2 := Lib.hid B2
  clear hq B2
  go_wp2_with fail
  refine (H2.out _ HB2.out).mono ?_
  rintro e w3 ⟨rfl, hq⟩
  have B3 := HB2.out.trans ((quiet_below hq).mono HB2.out.size)
  have HB3 := Lib.hid B3
  clear hq B3
  go_upto_region 5 with (fail)
  have M1 : True := trivial
  go_region_held3 (fun _ => True) (exact trivial) (first | (go_at_call 120; clear M1; refine (HQ.out _).mono ?_; rintro e w4 ⟨⟨p1, n1, c1, rfl, hn1, hm1⟩, hb1⟩; replace hn1 := Lib.hid hn1; replace hm1 := Lib.hid hm1; replace hb1 := Lib.hid hb1) | (go_at_call 120; refine (HR.out _).mono ?_; rintro e w5 ⟨⟨p2, n2, c2, rfl, hn2, hm2⟩, hb2⟩; replace hn2 := Lib.hid hn2; replace hm2 := Lib.hid hm2; replace hb2 := Lib.hid hb2))
  go_wp2
  go_ret2
  exact ⟨nn_of hn1.out hn2.out (hm1.out.keep hb2.out) hm2.out, ((below_drewN' HB3.out 1).trans (hb1.out.mono HB3.out.size)).trans (hb2.out.mono (Nat.le_trans HB3.out.size hb1.out.size))⟩
theorem nd_eq_one {v : Nat} (h : nd v = 1) : dg v 0 = v ∧ v < 4294967296 ∧ v ≠ 0 := by
  have h1 := (nd_le (v := v) (k := 1)).1 (by omega)
  have h2 := nd_pos.1 (show 0 < nd v by omega)
  have h3 := vf_nd v
  rw [h, vf, vf] at h3
  refine ⟨by simpa using h3, by omega, h2⟩
set_option maxHeartbeats 400000 in
set_option maxRecDepth 100000 in
theorem c_div_short (p : Option Addr) (c u : Nat) (q : Option Addr) (d v : Nat) (w : World) (h1 : Nm w p c u) (h2 : Nm w q d v) (hu : 2 < nd u) (hul : nd u ≤ 35184372088830) (hv : nd v = 1) (huv : v ≤ u) :
    Calls Tryz.prog 214 #[.slice p (nd u) c, .slice q (nd v) d] w fun e w' => RetNN w' e (u / v) (u % v) ∧ Below w.heap.size w w' := by
  obtain ⟨hv1, hv2, hv0⟩ := nd_eq_one hv
  obtain ⟨s, hs⟩ := cmp_ge huv
  have hsd : decide ((s : Int) < 0) = false := decide_eq_false (by omega)
  have HC := c_compare p c u q d v w h1 h2 (by omega) (by omega)
  rw [hs] at HC
  replace HC := Lib.hid HC
  have HS := Lib.hid (fun (w1 : World) (hb : Below w.heap.size w w1) => c_short p c (nd u) (dg u) v w1 (Dg.keep h1 hb) (by omega) (by omega) (by omega))
  rw [vf_nd] at HS
  obtain ⟨g, o, rfl, hg, hcell⟩ := h2.head (by omega)
  have hc0 : ∀ w1, Below w.heap.size w w1 → w1.cell? ⟨g, o, none⟩ = some (.int .u32 (v : Nat)) := fun w1 hb => by
    have := (hb.cell (p := ⟨g, o, none⟩) hg).trans (hcell 0 (by omega))
    rw [hv1] at this
    exact this
  have HC0 := Lib.hid hc0
  obtain ⟨Q, hQ⟩ : ∃ Q, u / v = Q := ⟨_, rfl⟩
  obtain ⟨R, hR⟩ : ∃ R, u % v = R := ⟨_, rfl⟩
  have hRl : R < v := by rw [← hR]; exact Nat.mod_lt _ (by omega)
  have HW := Lib.hid (fun w => (c_wide R w (by omega)).mono (fun _ _ h => And.imp_left RetN.op h))
  rw [hQ, hR] at HS
  rw [hQ, hR, hv]
  rw [hv] at HC
  have hn2 : (2 : Int) < (nd u : Int) := by omega
  have hn2d : decide ((nd u : Int) ≤ 2) = false := decide_eq_false (by omega)
  have HUL := Lib.hid hul
  have HRI := Lib.hid (show (R : Int) < 4294967296 by omega)
  clear h1 h2 huv hs hQ hR hRl hu hcell hc0 hv hv1 hv2 hv0 hul
  generalize nd u = n at *
  go_enter Tryz.func214, Tryz.ntmps214
  go_wp2_with fail
  refine HC.out.mono ?_
  rintro e w1 ⟨rfl, hq⟩
  have B1 := quiet_below hq
  have HB1 := Lib.hid B1
  have c0 := HC0.out _ B1
  clear hq B1 HC HC0
  go_wp2_with fail
  refine (HS.out _ HB1.out).mono ?_
  rintro e w2 ⟨⟨p2, c2, r2, rfl, hd2, hv2⟩, hb2⟩
  have HT := Lib.hid (c_trimmed p2 c2 n r2 w2 hd2 (by have := HUL.out; omega))
  rw [hv2] at HT
  have B2 := HB1.out.trans (hb2.mono HB1.out.size)
  have HB2 := Lib.hid B2
  clear hb2 B2 hd2 hv2 HS c0
  go_wp2_with fail
  refine HT.out.mono ?_
  rintro e w3 ⟨⟨rfl, hm⟩, rfl⟩
  obtain ⟨k, hk⟩ : ∃ k, nd Q = k := ⟨_, rfl⟩
  rw [hk]
  have HM := Lib.hid hm
  have HK := Lib.hid hk
  have hRi := HRI.out
  clear HT hm hk
  go_wp2_with fail
  refine (HW.out _).mono ?_
  rintro e w4 ⟨⟨p4, n4, c4, rfl, hn4, hm4⟩, hb4⟩
  have hf := nn_of HK.out hn4 (HM.out.keep hb4) hm4
  have B4 := HB2.out.trans (hb4.mono HB2.out.size)
  have HF := Lib.hid hf
  have HB4 := Lib.hid B4
  clear hf B4 hb4 hn4 hm4
  go_wp2
  go_ret2
  exact ⟨HF.out, HB4.out⟩
/-- The first digit, and how far it is to be moved. -/
theorem lz_at {v : Nat} (hv : v ≠ 0) : ∃ t S, dg v (nd v - 1) = t ∧ t < 4294967296 ∧ S < 32 ∧ (32 - (Lib.bitLen t : Int)) = (S : Nat) ∧ nd (v * 2 ^ S) = nd v ∧ 2147483648 ≤ dg (v * 2 ^ S) (nd v - 1) ∧ v * 2 ^ S < 4294967296 ^ (nd v) ∧ 4294967296 ^ (nd v - 1) * 2147483648 ≤ v * 2 ^ S := by
  obtain ⟨m, hm⟩ : ∃ m, nd v = m + 1 := ⟨nd v - 1, by have := nd_pos.2 hv; omega⟩
  have h2 := nd_le.1 (Nat.le_refl (nd v))
  have hd : dg v (nd v - 1) = v / 4294967296 ^ (nd v - 1) := by
    unfold dg
    rw [hm] at h2 ⊢
    simp only [Nat.add_sub_cancel]
    rw [Nat.mod_eq_of_lt]
    rw [Nat.div_lt_iff_lt_mul (Dig.pow_pos m), ← pow_succ']
    exact h2
  obtain ⟨t, ht⟩ : ∃ t, v / 4294967296 ^ (nd v - 1) = t := ⟨_, rfl⟩
  have htl : t < 4294967296 := by rw [← ht, ← hd]; exact dg_lt _ _
  have hl : Lib.bitLen t ≤ 32 := Lib.bitLen_le t 32 (by omega) (by omega)
  obtain ⟨a1, a2, a3, a4, a5, a6⟩ := lz_facts (s := 32 - Lib.bitLen t) hv ht (by omega)
  exact ⟨t, 32 - Lib.bitLen t, hd.trans ht, htl, a1, by omega, a3, a4, a5, a6⟩
/-- The first window is less than the divisor. -/
theorem long_fits {n m M S u v : Nat} {r0 : Nat → Nat} (hr : ∀ i, i < n + 1 → r0 i < 4294967296) (hv : vf r0 (n + 1) = u * 2 ^ S) (hu : u < 4294967296 ^ n) (hM : M + m = n + 1) (hm : 0 < m) (hS : S < 32) (hV : 4294967296 ^ (m - 1) * 2147483648 ≤ v * 2 ^ S) : vf (shf r0 M) m < v * 2 ^ S := by
  have h1 := vf_div hr (i := M) (by omega)
  rw [show n + 1 - M = m from by omega, hv] at h1
  rw [← h1]
  have h2 := two_pow_le hS
  refine Nat.lt_of_lt_of_le ?_ hV
  rw [Nat.div_lt_iff_lt_mul (Dig.pow_pos M)]
  have h3 : 4294967296 ^ (m - 1) * 2147483648 * 4294967296 ^ M = 4294967296 ^ n * 2147483648 := by
    rw [show n = (m - 1) + M from by omega, Nat.pow_add]
    simp only [Nat.mul_comm, Nat.mul_left_comm]
  rw [h3]
  exact Nat.lt_of_lt_of_le (Nat.mul_lt_mul_of_pos_right hu (Nat.two_pow_pos S)) (Nat.mul_le_mul_left _ h2)
set_option maxHeartbeats 2000000 in
set_option maxRecDepth 100000 in
theorem c_div_long (p : Option Addr) (c u : Nat) (q : Option Addr) (d v : Nat) (w : World) (h1 : Nm w p c u) (h2 : Nm w q d v) (hu : 2 < nd u) (hul : nd u ≤ 35184372088830) (hv : 1 < nd v) (huv : v ≤ u) :
    Calls Tryz.prog 214 #[.slice p (nd u) c, .slice q (nd v) d] w fun e w' => RetNN w' e (u / v) (u % v) ∧ Below w.heap.size w w' := by
  have hv0 : v ≠ 0 := nd_pos.1 (by omega)
  have hvn := nd_mono huv
  obtain ⟨s, hs⟩ := cmp_ge huv
  have hsd : decide ((s : Int) < 0) = false := decide_eq_false (by omega)
  have HC := c_compare p c u q d v w h1 h2 (by omega) (by omega)
  rw [hs] at HC
  replace HC := Lib.hid HC
  obtain ⟨t, S, ht, htl, hS, hSe, hndV, htop, hVl, hVg⟩ := lz_at hv0
  obtain ⟨g, o, rfl, hg, hcell⟩ := h2.head (by omega)
  have hc0 : ∀ w1, Below w.heap.size w w1 → w1.cell? ⟨g, o + (nd v - 1), none⟩ = some (.int .u32 (t : Nat)) := fun w1 hb => by
    have := (hb.cell (p := ⟨g, o + (nd v - 1), none⟩) hg).trans (hcell (nd v - 1) (by omega))
    rw [ht] at this
    exact this
  have HC0 := Lib.hid hc0
  have HLZ := Lib.hid (fun w => c_Lz32 (t : Int) w (by omega) (by omega))
  rw [Int.toNat_natCast, hSe] at HLZ
  have H1 := Lib.hid (fun (w1 : World) (hb : Below w.heap.size w w1) => c_shifted p c (nd u) (dg u) S w1 (Dg.keep h1 hb) (by omega) (by omega))
  have H2 := Lib.hid (fun (w1 : World) (hb : Below w.heap.size w w1) => c_shifted (some ⟨g, o, none⟩) d (nd v) (dg v) S w1 (Dg.keep h2 hb) (by omega) (by omega))
  rw [vf_nd] at H1 H2
  have hun : u < 4294967296 ^ nd u := nd_le.1 (Nat.le_refl _)
  have hSi : (S : Int) < 32 := by omega
  have hn2 : (2 : Int) < (nd u : Int) := by omega
  have hn2d : decide ((nd u : Int) ≤ 2) = false := decide_eq_false (by omega)
  have hm1 : (1 : Int) < (nd v : Int) := by omega
  have hm1d : ((nd v : Int) == 1) = false := beq_eq_false_iff_ne.2 (by omega)
  have e1 : ((nd v : Int) - 1).toNat = nd v - 1 := by omega
  obtain ⟨V, hV⟩ : ∃ V, v * 2 ^ S = V := ⟨_, rfl⟩
  rw [hV] at H2 hndV htop hVl hVg
  have HVE := Lib.hid hV
  have HVP := Lib.hid (show 0 < V by rw [← hV]; exact Nat.mul_pos (by omega) (Nat.two_pow_pos S))
  obtain ⟨M, hM⟩ : ∃ M, M + nd v = nd u + 1 := ⟨nd u + 1 - nd v, by omega⟩
  have hMi : (nd u : Int) + 1 - (nd v : Int) = (M : Nat) := by omega
  have HM := Lib.hid hM
  have HTOP := Lib.hid htop
  have HVL := Lib.hid hVl
  have HVG := Lib.hid hVg
  have HUN := Lib.hid hun
  have HND := Lib.hid hndV
  have HUL := Lib.hid hul
  have hml : nd v ≤ 35184372088830 := by omega
  have hnl : nd u ≤ 35184372088830 := by omega
  have hMl : M ≤ 35184372088830 := by omega
  have HSS := Lib.hid hS
  have HV0 := Lib.hid (show 0 < v by omega)
  obtain ⟨Q, hQ⟩ : ∃ Q, u / v = Q := ⟨_, rfl⟩
  obtain ⟨R, hR⟩ : ∃ R, u % v = R := ⟨_, rfl⟩
  have HQ := Lib.hid hQ
  have HR := Lib.hid hR
  rw [hQ, hR]
  clear hV h1 h2 hu hul hv huv hv0 hvn hs ht hc0 htl hS hSe hndV htop hVl hVg hcell hun hM hQ hR
  generalize nd u = n at *
  generalize nd v = m at *
  go_enter Tryz.func214, Tryz.ntmps214
  go_wp2_with fail
  refine HC.out.mono ?_
  rintro e w1 ⟨rfl, hq⟩
  have B1 := quiet_below hq
  have HB1 := Lib.hid B1
  have c0 := HC0.out _ B1
  clear hq B1 HC HC0
  go_wp2_with fail
  refine (HLZ.out _).mono ?_
  rintro e w2 ⟨rfl, rfl⟩
  clear c0 HLZ
  go_wp2_with fail
  refine (H1.out _ HB1.out).mono ?_
  rintro e w3 ⟨⟨gu, cu, r0, rfl, hcu, hgu, hrow, hval⟩, hb3⟩
  have B3 := HB1.out.trans (hb3.mono HB1.out.size)
  have HB3 := Lib.hid B3
  have HROW := Lib.hid hrow
  have HVAL := Lib.hid hval
  have HGU := Lib.hid (Nat.le_trans HB1.out.size hgu)
  clear H1 HB1 B3 hb3 hrow hval hgu
  go_wp2_with fail
  refine (H2.out _ HB3.out).mono ?_
  rintro e w4 ⟨⟨gv, cv, rv, rfl, hcv, hgv, hrowv, hvalv⟩, hb4⟩
  have B4 := HB3.out.trans (hb4.mono HB3.out.size)
  have HT := c_trimmed (some ⟨gv, 0, none⟩) cv (m + 1) rv w4 (hrowv.dg cv hcv) (by have := HUL.out; have := HM.out; omega)
  rw [hvalv, HND.out] at HT
  have HT := Lib.hid HT
  have hne : gv ≠ gu := by have := HROW.out.1.lt; omega
  have HROW4 := Lib.hid (HROW.out.below hb4 HROW.out.1.lt)
  have HB4 := Lib.hid B4
  clear H2 HB3 B4 hb4 hrowv hvalv hgv hcv HROW
  go_wp2_with fail
  refine HT.out.mono ?_
  rintro e w5 ⟨⟨rfl, hmV⟩, rfl⟩
  have hdV : Dg w5 (some ⟨gv, 0, none⟩) cv m (dg V) := by
    unfold Nm at hmV
    rw [HND.out] at hmV
    exact hmV
  have hmk : ∀ w, (Instr.makeSlice 31 (.int .i64 (M : Int)) (.int .i64 (M : Int))).run Tryz.prog w = .ok (.slice (some ⟨w.heap.size, 0, none⟩) M M) (w.alloc (.cells (madeCells #[.int .u32 0] M) 187)) := make32 M (by omega)
  obtain ⟨w6, hw6⟩ : ∃ w6, w5.alloc (.cells (madeCells #[.int .u32 0] M) 187) = w6 := ⟨_, rfl⟩
  obtain ⟨gq, hgq⟩ : ∃ gq, w5.heap.size = gq := ⟨_, rfl⟩
  have hb6 : Below w5.heap.size w5 w6 := by rw [← hw6]; exact (Below.refl _ _).alloc (Nat.le_refl _) _
  have hrq := Row.made w5 M
  rw [hw6, hgq] at hrq
  have hgvl : gv < w5.heap.size := by
    obtain ⟨g', o', e', hg', _⟩ := hdV.head (by omega)
    injection e' with e'; injection e' with e1 e2; omega
  have hne2 : gq ≠ gu := by have := HROW4.out.1.lt; omega
  have hne3 : gv ≠ gq := by omega
  have hgqb : w.heap.size ≤ gq := by rw [← hgq]; exact HB4.out.size
  have hr0 : ∀ i, i < n + 1 → r0 i < 4294967296 := HROW4.out.2
  have hst : LongAt w6 gu gq m M M r0 V := long_start (by rw [HM.out]; exact HROW4.out.below hb6 HROW4.out.1.lt) hrq (by rw [← HVE.out]; exact long_fits hr0 HVAL.out HUN.out HM.out (by omega) HSS.out (by rw [HVE.out]; exact HVG.out))
  have HST := Lib.hid hst
  have HD6 := Lib.hid (hdV.below hb6 hgvl)
  have HB6 := Lib.hid (HB4.out.trans (hb6.mono HB4.out.size))
  have HR0 := Lib.hid hr0
  clear hst hdV hmV HT hrq hr0 hgvl
  go_wp2
  try rw [hgq, hw6]
  clear hw6 hgq hb6 HROW4 HB4 hmk
  go_loopw [14] (fun v14 wr => ∃ k : Nat, k ≤ M ∧ v14 = .int .i64 ((k : Int) - 1) ∧ LongAt wr gu gq m M k r0 V ∧ Dg wr (some ⟨gv, 0, none⟩) cv m (dg V) ∧ Below w.heap.size w wr) (fun v14 _ => (intOf v14 + 1).toNat)
  case atStart => exact ⟨M, Nat.le_refl _, by go_num, HST.out, HD6.out, HB6.out⟩
  case round =>
    clear HST HD6 HB6
    obtain ⟨k, hk, rfl, hl, hd, hb⟩ := hrel
    have HL := Lib.hid hl
    have HD := Lib.hid hd
    have HB := Lib.hid hb
    clear hl hd hb
    by_cases hk0 : k = 0
    · subst hk0
      obtain ⟨r, q, hru, hrq, hrv, hqv⟩ := long_end HL.out
      have hU : vf r0 (M + m) = u * 2 ^ S := by rw [HM.out]; exact HVAL.out
      rw [hU, ← HVE.out, Nat.mul_mod_mul_right] at hrv
      rw [hU, ← HVE.out, Nat.mul_div_mul_right _ _ (Nat.two_pow_pos S), HQ.out] at hqv
      rw [HR.out] at hrv
      have HT1 := c_trimmed (some ⟨gq, 0, none⟩) M M q wr.drew ((hrq.dg M (Nat.le_refl _)).keep (below_drewN' (Below.refl _ _) 1)) (by omega)
      have HU := c_unshifted (some ⟨gu, 0, none⟩) cu m r S wr.drew (((hru.dg cu (by have := HM.out; omega)).take (k := m) (by omega)).keep (below_drewN' (Below.refl _ _) 1)) (by omega) (by omega)
      rw [hqv] at HT1
      rw [hrv, Nat.mul_div_cancel _ (Nat.two_pow_pos S)] at HU
      obtain ⟨k1, hk1⟩ : ∃ k1, nd Q = k1 := ⟨_, rfl⟩
      rw [hk1] at HT1
      obtain ⟨k2, hk2⟩ : ∃ k2, nd R = k2 := ⟨_, rfl⟩
      replace HT1 := Lib.hid HT1
      replace HU := Lib.hid HU
      have HK1 := Lib.hid hk1
      have HK2 := Lib.hid hk2
      have hmcu : (m : Int) ≤ (cu : Int) := by have := HM.out; omega
      have M1 : True := trivial
      clear hru hrq hrv hqv hU hk1 hk2 HL HD
      go_upto_region 17 with (fail)
      go_region_held3 (fun _ => True) (exact trivial) (first
        | (go_at_call 124; clear M1; refine HT1.out.mono ?_; rintro e w' ⟨⟨rfl, hn1⟩, rfl⟩; replace hn1 := Lib.hid hn1)
        | (go_at_call 224; refine HU.out.mono ?_; rintro e w7 ⟨⟨p2, c2, r2, rfl, hd2, hv2⟩, hb2⟩; have HT2 := c_trimmed p2 c2 m r2 w7 hd2 (by omega); rw [hv2, HK2.out] at HT2; replace HT2 := Lib.hid HT2; replace hb2 := Lib.hid hb2; clear hd2 hv2)
        | (go_at_call 124; refine HT2.out.mono ?_; rintro e w' ⟨⟨rfl, hn2⟩, rfl⟩; replace hn2 := Lib.hid hn2))
      go_wp2
      go_ret2
      exact ⟨nn_of HK1.out HK2.out (hn1.out.keep hb2.out) hn2.out, (below_drewN' HB.out 1).trans (hb2.out.mono HB.out.size)⟩
    · obtain ⟨j, rfl⟩ : ∃ j, k = j + 1 := ⟨k - 1, by omega⟩
      have e14 : (((j + 1 : Nat) : Int) - 1) = (j : Int) := by omega
      rw [e14]
      obtain ⟨r, q, hru, hrq, hlow, hval, hqv⟩ := HL.out
      obtain ⟨X, hX⟩ : ∃ X, vf (shf r0 (j + 1)) (M + m - (j + 1)) = X := ⟨_, rfl⟩
      rw [hX] at hval hqv
      obtain ⟨hw1, hw2⟩ := long_window hlow hval HVP.out
      have DC := c_digit gu j (M + m) m (cu - j) gv 0 cv r (dg V) wr hru (by omega) (by omega) HD.out hne HTOP.out (by rw [vf_dg HVL.out]; exact hw2 (HR0.out j (by have := HM.out; omega))) (by omega)
      obtain ⟨Qd, hQd⟩ : ∃ Qd, (r0 j + 4294967296 * (X % V)) / V = Qd := ⟨_, rfl⟩
      have hQl : Qd < 4294967296 := by
        rw [← hQd, ← hw1, Nat.div_lt_iff_lt_mul HVP.out, Nat.mul_comm]
        exact hw2 (HR0.out j (by have := HM.out; omega))
      rw [vf_dg HVL.out, hw1, hQd] at DC
      have hst : ∀ w', Only gu wr w' → DigitAt w' gu (M + m) j m r ((r0 j + 4294967296 * (X % V)) % V) → (∃ y, w'.cell? ⟨gq, j, none⟩ = some y) ∧ w'.frozen? ⟨gq, j, none⟩ = false ∧ LongAt (w'.setCell ⟨gq, j, none⟩ (.int .u32 Qd)) gu gq m M j r0 V ∧ Dg (w'.setCell ⟨gq, j, none⟩ (.int .u32 Qd)) (some ⟨gv, 0, none⟩) cv m (dg V) ∧ Below w.heap.size w (w'.setCell ⟨gq, j, none⟩ (.int .u32 Qd)) := by
        intro w' hO ⟨r', hru', hkeep', hrem'⟩
        have hrq' := hO.row hrq hne2
        refine ⟨⟨_, hrq'.1.cell (by omega)⟩, hrq'.1.frozen _, ?_, ?_, ?_⟩
        · exact long_step (by omega) hX hlow hru' hkeep' hrem' hrq' hqv HVP.out (Nat.le_of_lt HVL.out) hQd hQl hne2
        · exact ((Only.refl gq w').set j _).dg (hO.dg HD.out hne) hne3
        · exact (HB.out.trans (hO.below HGU.out HB.out.size)).setCell hgqb _
      have HN := Lib.hid hst
      replace DC := Lib.hid DC
      have hj0 : decide ((0 : Int) ≤ (j : Int)) = true := decide_eq_true (by omega)
      have hjl : (j : Int) + m + 1 ≤ cu := by have := HM.out; omega
      have ej : j + m + 1 - j = m + 1 := by omega
      have hQi : (Qd : Int) < 4294967296 := by omega
      have HQI := Lib.hid hQi
      clear e14 hk0 hru hrq hlow hval hqv hX hw1 hw2 hQd hQl hst HL HD hQi
      go_wp2_with fail
      rw [ej]
      refine DC.out.mono ?_
      rintro e w' ⟨rfl, hO, hDa⟩
      obtain ⟨⟨y, hy⟩, hfz, hL, hD2, hB2⟩ := HN.out w' hO hDa
      have HL2 := Lib.hid hL
      have HD2 := Lib.hid hD2
      have HB2 := Lib.hid hB2
      clear hO hDa hL hD2 hB2 DC HN ej
      go_wp2
      go_roundw
      case rel => exact ⟨j, by omega, by go_num, HL2.out, HD2.out, HB2.out⟩
      case measure => simp [intOf]
end Go.Proofs.YthikonjlgljikaaGreatDoor
