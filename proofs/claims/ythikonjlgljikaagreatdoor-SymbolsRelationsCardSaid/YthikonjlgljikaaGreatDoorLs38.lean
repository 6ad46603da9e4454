/- Contract of projline.List. -/
import Derived.Test.YthikonjlgljikaaGreatDoorLs37
import Derived.Test.YthikonjlgljikaaGreatDoorLs02
namespace Go.Proofs.YthikonjlgljikaaGreatDoor
open Go.RowKit

theorem c_level (n : Int) (w : World) (h0 : 0 < n) (hn : n ≤ 120) : Calls Tryz.prog 179 #[.int .i64 n] w fun e w' => e = .returned (.int .i64 0) ∧ w' = w := by
  go_enter Tryz.func179, Tryz.ntmps179
  go_wp2
  go_ret
  exact ⟨rfl, rfl⟩
set_option maxHeartbeats 4000000 in
set_option maxRecDepth 100000 in
theorem c_PList (n : Nat) (w : World) (h0 : 0 < n) (hn : n ≤ 120) :
    Calls Tryz.prog 118 #[.int .i64 n] w fun e w' => (∃ v, e = .returned (.tuple #[v, .int .i64 0]) ∧ OwnPt n (pts n (n * n)) w' w.heap.size v) ∧ Below w.heap.size w w' := by
  obtain ⟨NN, hNN⟩ : ∃ m, n * n = m := ⟨_, rfl⟩
  have hNl : NN ≤ 14400 := by rw [← hNN]; exact Nat.mul_le_mul hn hn
  have hnn : (n : Int) * (n : Int) = (NN : Nat) := by rw [← hNN]; push_cast; rfl
  have hmk := makeB NN (by omega)
  have HNN := Lib.hid hNN
  rw [hNN]
  clear hNN
  go_enter Tryz.func118, Tryz.ntmps118
  go_wp2_with fail
  refine (c_level n w (by omega) (by omega)).mono ?_
  rintro e w1 ⟨rfl, rfl⟩
  go_wp2_with fail
  go_loopw [5, 6] (fun v s wr => ∃ m : Nat, m ≤ n ∧ s = .int .i64 ((m : Int) + 1) ∧ OwnN (uns n m) wr w1.heap.size v ∧ Below w1.heap.size w1 wr) (fun _ s _ => n + 1 - (intOf s).toNat)
  case atStart => exact ⟨0, Nat.zero_le _, rfl, OwnN.nil _ _, Below.refl _ _⟩
  case round =>
    obtain ⟨m, hm, rfl, hown, hb⟩ := hrel
    obtain ⟨w2, rfl⟩ : ∃ w2 : World, w2 = wr := ⟨_, rfl⟩
    have HOWN := Lib.hid hown
    have HB := Lib.hid hb
    clear hown hb
    by_cases hlt : m < n
    · have hle : (m : Int) + 1 ≤ (n : Int) := by omega
      go_wp2_with fail
      refine (c_gcd ((m : Int) + 1) n w2 (by omega) (by omega) (by omega) (by omega)).mono ?_
      rintro e w3 ⟨rfl, k, rfl⟩
      have hgc : Int.gcd ((m : Int) + 1) (n : Int) = Nat.gcd (m + 1) n := by
        have : ((m : Int) + 1) = ((m + 1 : Nat) : Int) := by push_cast; rfl
        rw [this]; rfl
      rw [hgc]
      have HBD := Lib.hid (below_drewN' HB.out k)
      have HOD := Lib.hid (HOWN.out.keep (below_drewN' (Below.refl _ w2) k))
      clear hgc
      by_cases hu : pun n (m + 1) = true
      · have hu2 : (((Nat.gcd (m + 1) n : Nat) : Int) == 1) = true := by unfold pun at hu; simp only [beq_iff_eq] at hu; rw [hu]; rfl
        have HU := Lib.hid hu
        have HLN := Lib.hid (uns_length n m)
        have HKO := Lib.hid (show OwnK NotU32 (w2.drewN k) w1.heap.size 3 1 u5 (uns n m).length ((uns n m).map fun n : Nat => Value.int .i64 (n : Int)) from HOD.out)
        clear hu
        go_wp2_with (at_builtin; refine wpl_app2 NotU32 rfl (.tmp 28) (.tmp 30) _ 3 rfl Tryz.underlying49 intInfo rfl (by decide) w1.heap.size (uns n m).length u5 ((uns n m).map fun n : Nat => Value.int .i64 (n : Int)) [.int .i64 ((m : Int) + 1)] rfl HKO.out rfl rfl (by intro u hu; simp at hu; subst hu; rfl) (by have := HLN.out; omega) (by have := HLN.out; omega) HBD.out.size (by intro u hu; simp at hu; subst hu; exact fun _ h => by cases h) (by intro u hu; simp [Value.cells] at hu; subst hu; exact fun _ h => by cases h) ?_; intro v9 w9 hown9 hgr9 hat9; have HO9 := Lib.hid (show OwnN (uns n m ++ [m + 1]) w9 w1.heap.size v9 from OwnN.push (by rw [show (((m + 1 : Nat) : Int)) = (m : Int) + 1 by push_cast; rfl]; exact hown9)); have HB9 := Lib.hid (HBD.out.trans (own_below (Below.refl _ _) HKO.out.1 hgr9 (Nat.le_refl _) HBD.out.size)); clear hown9 hgr9 hat9)
        go_roundw
        case rel => exact ⟨m + 1, by omega, by go_num, by rw [uns_succ, if_pos HU.out]; exact HO9.out, HB9.out⟩
        case measure => simp [intOf]; omega
      · have hu2 : (((Nat.gcd (m + 1) n : Nat) : Int) == 1) = false := by
          unfold pun at hu
          simp only [beq_iff_eq] at hu
          simp; omega
        have HU := Lib.hid hu
        clear hu
        go_wp2
        go_roundw
        case rel => exact ⟨m + 1, by omega, by go_num, by rw [uns_succ, if_neg HU.out]; exact HOD.out, HBD.out⟩
        case measure => simp [intOf]; omega
    · obtain rfl : n = m := by omega
      go_wp2_with fail
      obtain ⟨gS, hgS⟩ : ∃ g, w2.heap.size = g := ⟨_, rfl⟩
      have hcr := CRow.made (z := .bool false) (fun _ h => by cases h) w2 NN 4
      obtain ⟨wS, hwS⟩ : ∃ wS, w2.alloc (.cells (madeCells #[.bool false] NN) 4) = wS := ⟨_, rfl⟩
      have hbS : Below w2.heap.size w2 wS := hwS ▸ (Below.refl _ _).alloc (Nat.le_refl _) _
      rw [hwS] at hcr ⊢
      obtain ⟨pu, cu, hu5⟩ := own_slice (show OwnK NotU32 w2 w1.heap.size 3 1 u5 (uns n n).length _ from HOWN.out).1
      subst hu5
      have hnl := OwnN.nl HOWN.out
      have HBW := Lib.hid HB.out.size
      rw [hgS] at hcr hbS hnl HBW ⊢
      have HNL := Lib.hid hnl
      have HBS := Lib.hid hbS
      have HCR := Lib.hid (show CRow (fun i => .bool (pseen n (pts n 0) i)) wS gS NN from hcr.congr (fun i _ => rfl))
      have HUL := Lib.hid (uns_length n n)
      clear hcr hbS hnl hwS HOWN hmk
      go_loopw [7, 38] (fun v ii wr => ∃ k : Nat, k ≤ NN ∧ ii = .int .i64 k ∧ OwnPt n (pts n k) wr (gS + 1) v ∧ CRow (fun i => .bool (pseen n (pts n k) i)) wr gS NN ∧ Below gS wS wr) (fun _ ii _ => NN - (intOf ii).toNat)
      case atStart => exact ⟨0, Nat.zero_le _, rfl, OwnPt.nil _ _ _, HCR.out, Below.refl _ _⟩
      case round =>
        obtain ⟨k, hk, rfl, hpt, hcr, hbr⟩ := hrel
        obtain ⟨w3, rfl⟩ : ∃ w3 : World, w3 = wr := ⟨_, rfl⟩
        have HPT := Lib.hid hpt
        have HC3 := Lib.hid hcr
        have HB3 := Lib.hid hbr
        clear hpt hbr HCR
        by_cases hkN : k < NN
        · have hki : (k : Int) < (NN : Int) := by omega
          have hq : (k : Int).tdiv (n : Int) = ((k / n : Nat) : Int) := by rw [Int.tdiv_eq_ediv_of_nonneg (by omega)]; rfl
          have hr : (k : Int).tmod (n : Int) = ((k % n : Nat) : Int) := by rw [Int.tmod_eq_emod_of_nonneg (by omega)]; rfl
          have hdu : k / n < n := Nat.div_lt_of_lt_mul (by rw [HNN.out]; exact hkN)
          have hdv : k % n < n := Nat.mod_lt _ h0
          obtain ⟨u, hu⟩ : ∃ u, k / n = u := ⟨_, rfl⟩
          obtain ⟨v, hv⟩ : ∃ v, k % n = v := ⟨_, rfl⟩
          rw [hu] at hq hdu
          rw [hv] at hr hdv
          have HU := Lib.hid hu
          have HV := Lib.hid hv
          have hni : (n : Int) ≠ 0 := by omega
          have s0 := hcr.val k hkN
          clear hu hv hcr
          go_wp2_with fail
          go_quiet (fail)
          generalize hw4 : w3.drewN nq = w4
          have hb4 : Below w3.heap.size w3 w4 := hw4 ▸ below_drewN' (Below.refl _ _) nq
          have s4 := cell_next hb4 s0
          have HB4 := Lib.hid (HB3.out.trans (hb4.mono (Nat.le_of_lt HC3.out.stk.1)))
          have HPT4 := Lib.hid (HPT.out.keep hb4)
          have HC4 := Lib.hid (HC3.out.keep hb4)
          clear hw4 hb4 s0 HPT HC3 HB3 hq hr
          cases hs : pseen n (pts n k) k with
          | true =>
            rw [hs] at s4
            have HP := Lib.hid (show pts n (k + 1) = pts n k by rw [pts_succ, hs]; simp)
            clear hs
            go_wp2
            go_roundw
            case rel => exact ⟨k + 1, by omega, by go_num, by rw [HP.out]; exact HPT4.out, by rw [HP.out]; exact HC4.out, HB4.out⟩
            case measure => simp [intOf]; omega
          | false =>
            rw [hs] at s4
            have HS := Lib.hid hs
            clear hs
            go_wp2_with fail
            refine (c_gcd u v w4 (by omega) (by omega) (by omega) (by omega)).mono ?_
            rintro e w5 ⟨rfl, m1, rfl⟩
            have hg1 : Int.gcd (u : Int) (v : Int) = Nat.gcd u v := rfl
            rw [hg1]
            have hgl : Nat.gcd u v ≤ n + n := by
              rcases Nat.eq_zero_or_pos u with h | h
              · subst h; rw [Nat.gcd_zero_left]; omega
              · have := Nat.gcd_le_left v h; omega
            go_wp2_with fail
            refine (c_gcd ((Nat.gcd u v : Nat) : Int) n _ (by omega) (by omega) (by omega) (by omega)).mono ?_
            rintro e w6 ⟨rfl, m2, rfl⟩
            have hg2 : Int.gcd ((Nat.gcd u v : Nat) : Int) (n : Int) = Nat.gcd (Nat.gcd u v) n := rfl
            rw [hg2]
            generalize hw5 : (w4.drewN m1).drewN m2 = w5
            have hb5 : Below w4.heap.size w4 w5 := hw5 ▸ below_drewN' (below_drewN' (Below.refl _ _) m1) m2
            have HB5 := Lib.hid (HB4.out.trans (hb5.mono (Nat.le_of_lt HC4.out.stk.1)))
            have HPT5 := Lib.hid (HPT4.out.keep hb5)
            have HC5 := Lib.hid (HC4.out.keep hb5)
            have HPO := Lib.hid (show pok n k = (Nat.gcd (Nat.gcd u v) n == 1) by unfold pok; rw [HU.out, HV.out])
            clear hw5 hb5 s4 HPT4 HC4 HB4 hg1 hg2 hgl
            cases ho : (Nat.gcd (Nat.gcd u v) n == 1) with
            | false =>
              have ho2 : (((Nat.gcd (Nat.gcd u v) n : Nat) : Int) != 1) = true := by
                simp only [beq_eq_false_iff_ne] at ho
                simp; omega
              have HP := Lib.hid (show pts n (k + 1) = pts n k by rw [pts_succ, HPO.out, ho]; simp)
              clear ho
              go_wp2
              go_roundw
              case rel => exact ⟨k + 1, by omega, by go_num, by rw [HP.out]; exact HPT5.out, by rw [HP.out]; exact HC5.out, HB5.out⟩
              case measure => simp [intOf]; omega
            | true =>
              have ho2 : (((Nat.gcd (Nat.gcd u v) n : Nat) : Int) != 1) = false := by
                simp only [beq_iff_eq] at ho
                rw [ho]; rfl
              have HP := Lib.hid (show pts n (k + 1) = pts n k ++ [k] by rw [pts_succ, HPO.out, ho, HS.out]; rfl)
              have HLN := Lib.hid (show (pts n k).length ≤ 14400 by
                have h1 : (pts n k).length ≤ k := pts_length n k
                omega)
              clear ho
              go_wp2_with (at_builtin; refine wpl_app2 NotU32 rfl (.tmp 59) (.tmp 63) _ 177 rfl Tryz.underlying131 ptInfo rfl (by decide) (gS + 1) (pts n k).length u7 ((pts n k).flatMap (ptc n)) [.int .i64 (u : Int), .int .i64 (v : Int), .int .i64 1] rfl HPT5.out rfl rfl (by intro u hu; simp at hu; rcases hu with rfl | rfl | rfl <;> rfl) (by have := HLN.out; omega) (by have := HLN.out; omega) HC5.out.stk.1 (by intro u hu; simp at hu; rcases hu with rfl | rfl | rfl <;> exact fun _ h => by cases h) (by intro u hu; simp [Value.cells] at hu; rcases hu with rfl | rfl | rfl <;> exact fun _ h => by cases h) ?_; intro v9 w9 hown9 hgr9 hat9; have HO9 := Lib.hid (show OwnPt n (pts n k ++ [k]) w9 (gS + 1) v9 from OwnPt.push (by rw [show ptc n k = [.int .i64 (u : Int), .int .i64 (v : Int), .int .i64 1] by unfold ptc; rw [HU.out, HV.out]]; exact hown9)); have HB9 := Lib.hid (HB5.out.trans ((own_below (Below.refl _ _) HPT5.out.1 hgr9 (Nat.le_refl _) HC5.out.stk.1).mono (Nat.le_succ gS))); have HC9 := Lib.hid (show CRow (fun i => .bool (flg n (pts n k) k 0 i)) w9 gS NN from (HC5.out.grown hgr9 (fun b hb => by have := own_ge HPT5.out.1 hb.symm; omega)).congr (fun i _ => by rw [flg_zero])); clear hown9 hgr9 hat9)
              clear HPT5 HC5 HB5
              go_loopw [67] (fun ii w6 => ∃ t : Nat, t ≤ (uns n n).length ∧ ii = .int .i64 t ∧ CRow (fun i => .bool (flg n (pts n k) k t i)) w6 gS NN ∧ OwnPt n (pts n k ++ [k]) w6 (gS + 1) v9 ∧ Below gS wS w6) (fun ii _ => (uns n n).length - (intOf ii).toNat)
              case atStart => exact ⟨0, Nat.zero_le _, rfl, HC9.out, HO9.out, HB9.out⟩
              case round =>
                obtain ⟨t, ht, rfl, hcr6, hpt6, hb6⟩ := hrel
                obtain ⟨w6, rfl⟩ : ∃ w6 : World, w6 = wr := ⟨_, rfl⟩
                have HC6 := Lib.hid hcr6
                have HPT6 := Lib.hid hpt6
                have HB6 := Lib.hid hb6
                clear hcr6 hpt6 hb6 HC9 HO9 HB9
                by_cases htl : t < (uns n n).length
                · have hti : (t : Int) < ((uns n n).length : Int) := by omega
                  obtain ⟨s, hs⟩ : ∃ s, (uns n n)[t]? = some s := ⟨_, List.getElem?_eq_getElem htl⟩
                  have hsm := uns_mem.1 (List.mem_of_getElem? hs)
                  have hs1 := hsm.1
                  have hs2 := hsm.2.1
                  have HSE := Lib.hid hs
                  rcases HNL.out.next (HBS.out.trans HB6.out) with ⟨h0', _⟩ | ⟨gU, cap', e, _, _, _, hx⟩
                  · rw [h0'] at htl; simp at htl
                  cases e
                  have c0 := hx t s hs
                  obtain ⟨SU, hSU⟩ : ∃ x, s * u = x := ⟨_, rfl⟩
                  obtain ⟨SW, hSW⟩ : ∃ x, s * v = x := ⟨_, rfl⟩
                  obtain ⟨P1, hP1⟩ : ∃ x, SU % n = x := ⟨_, rfl⟩
                  obtain ⟨P2, hP2⟩ : ∃ x, SW % n = x := ⟨_, rfl⟩
                  obtain ⟨PN, hPN⟩ : ∃ x, P1 * n = x := ⟨_, rfl⟩
                  have b1 : SU ≤ 14400 := by rw [← hSU]; exact Nat.mul_le_mul (by omega : s ≤ 120) (by omega : u ≤ 120)
                  have b2 : SW ≤ 14400 := by rw [← hSW]; exact Nat.mul_le_mul (by omega : s ≤ 120) (by omega : v ≤ 120)
                  have b3 : P1 < n := hP1 ▸ Nat.mod_lt _ h0
                  have b4 : P2 < n := hP2 ▸ Nat.mod_lt _ h0
                  have b5 : PN ≤ 14400 := by rw [← hPN]; exact Nat.mul_le_mul (by omega : P1 ≤ 120) (by omega : n ≤ 120)
                  have e1 : (s : Int) * (u : Int) = (SU : Nat) := by rw [← hSU]; push_cast; rfl
                  have e2 : (s : Int) * (v : Int) = (SW : Nat) := by rw [← hSW]; push_cast; rfl
                  have e3 : (SU : Int).tmod (n : Int) = (P1 : Nat) := by rw [Int.tmod_eq_emod_of_nonneg (by omega), ← hP1]; rfl
                  have e4 : (SW : Int).tmod (n : Int) = (P2 : Nat) := by rw [Int.tmod_eq_emod_of_nonneg (by omega), ← hP2]; rfl
                  have e5 : (P1 : Int) * (n : Int) = (PN : Nat) := by rw [← hPN]; push_cast; rfl
                  have hpm : PN + P2 = pmul n s k := by unfold pmul; rw [HU.out, HV.out, hSU, hSW, hP1, hP2, hPN]
                  obtain ⟨IX, hIX⟩ : ∃ x, PN + P2 = x := ⟨_, rfl⟩
                  have e6 : (PN : Int) + (P2 : Int) = (IX : Nat) := by omega
                  have hIN : IX < NN := by rw [← hIX, hpm, ← HNN.out]; exact pmul_lt h0 s k
                  have hINi : (IX : Int) < (NN : Int) := by omega
                  have HIX := Lib.hid (show IX = pmul n s k by rw [← hIX, hpm])
                  have d0 := HC6.out.val IX hIN
                  have d1 := HC6.out.free IX hIN
                  have i0 : (0 : Int) ≤ (IX : Int) := by omega
                  have v1 : IntKind.i64.wrap (SU : Int) = (SU : Nat) := IntWalk.i64_in _ (by omega)
                  have v2 : IntKind.i64.wrap (SW : Int) = (SW : Nat) := IntWalk.i64_in _ (by omega)
                  have v3 : IntKind.i64.wrap (PN : Int) = (PN : Nat) := IntWalk.i64_in _ (by omega)
                  have v5 : IntKind.i64.wrap (P1 : Int) = (P1 : Nat) := IntWalk.i64_in _ (by omega)
                  have v6 : IntKind.i64.wrap (P2 : Int) = (P2 : Nat) := IntWalk.i64_in _ (by omega)
                  have z1 : ((n : Int) == 0) = false := by simpa using hni
                  have z2 : n ≠ 0 := by omega
                  have v4 : IntKind.i64.wrap (IX : Int) = (IX : Nat) := IntWalk.i64_in _ (by omega)
                  have HCN := Lib.hid (show CRow (fun i => .bool (flg n (pts n k) k (t + 1) i)) (w6.setCell ⟨gS, IX, none⟩ (.bool true)).drew gS NN from (HC6.out.set IX (.bool true) (fun _ h => by cases h) (fun i => .bool (flg n (pts n k) k (t + 1) i)) (fun i _ => by rw [flg_succ HSE.out i, ← HIX.out]; split <;> rfl)).keep (Below.refl _ _).drew)
                  have HPN := Lib.hid (show OwnPt n (pts n k ++ [k]) (w6.setCell ⟨gS, IX, none⟩ (.bool true)).drew (gS + 1) v9 from OwnPt.keep (OwnK.other HPT6.out (a := ⟨gS, IX, none⟩) (Nat.lt_succ_self gS) (fun _ h => by cases h)) (Below.refl _ _).drew)
                  have HBN := Lib.hid (show Below gS wS (w6.setCell ⟨gS, IX, none⟩ (.bool true)).drew from (HB6.out.setCell (p := ⟨gS, IX, none⟩) (Nat.le_refl _) _).drew)
                  clear hSU hSW hP1 hP2 hPN hpm hIX hs hsm hx
                  go_upto_region 21 with (fail)
                  go_region_held3 (fun _ => True) (trivial) (fail)
                  all_goals go_wp2
                  all_goals go_roundw
                  all_goals first
                    | exact ⟨t + 1, by omega, by go_num, HCN.out, HPN.out, HBN.out⟩
                    | (simp [intOf]; omega)
                · obtain rfl : (uns n n).length = t := by omega
                  have HCE := Lib.hid (show CRow (fun i => .bool (pseen n (pts n k ++ [k]) i)) w6 gS NN from HC6.out.congr (fun i _ => by rw [flg_all]))
                  go_wp2
                  go_roundw
                  case rel => exact ⟨k + 1, by omega, by go_num, by rw [HP.out]; exact HPT6.out, by rw [HP.out]; exact HCE.out, HB6.out⟩
                  case measure => simp [intOf]; omega
        · obtain rfl : NN = k := by omega
          have HFP := Lib.hid (show OwnPt n (pts n NN) w3 w1.heap.size u7 from by
            obtain ⟨⟨e0, h1⟩, h2⟩ := HPT.out
            refine ⟨⟨e0, ?_⟩, h2⟩
            rcases h1 with h1 | ⟨g, cap, cs, e1, hg, rest⟩
            · exact .inl h1
            · exact .inr ⟨g, cap, cs, e1, by have := HBW.out; omega, rest⟩)
          have HFB := Lib.hid (HB.out.trans ((HBS.out.trans HB3.out).mono HBW.out))
          clear hcr
          go_wp2
          (first | go_ret2 | go_ret)
          exact ⟨⟨_, rfl, HFP.out⟩, HFB.out⟩
end Go.Proofs.YthikonjlgljikaaGreatDoor
