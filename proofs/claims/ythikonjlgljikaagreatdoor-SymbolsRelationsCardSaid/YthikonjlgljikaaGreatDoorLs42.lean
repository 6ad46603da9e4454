/- Contract of symbols.eliminate. -/
import Derived.Test.YthikonjlgljikaaGreatDoorLs34
namespace Go.Proofs.YthikonjlgljikaaGreatDoor
set_option linter.unusedSimpArgs false
open Go.RowKit Eli

/-- The rows of a matrix, entry by entry. -/
def rowF (C : Nat) (f : Nat → Int) (i q : Nat) : Int := if q < C then f (i * C + q) else 0
theorem rowF_small {C : Nat} {f : Nat → Int} (hf : ∀ j, (f j).natAbs ≤ 16777216) (i q : Nat) : (rowF C f i q).natAbs ≤ 16777216 := by
  unfold rowF
  split
  · exact hf _
  · simp
theorem msr_step {C t : Nat} {w : World} {B : Nat} {v : Value} {r : List (Nat × Rat)} (h : OwnT r w B v) (ho : Ord C (t + 1) r) (ht : t < C) : msr C w v < C + 1 - t := by
  cases r with
  | nil => rw [msr_nil h]; omega
  | cons y r => rw [msr_cons h]; have h1 := ho.1; have h2 := ho.2.1; omega
theorem hq_inv {x : Rat} (h : x ≠ 0) : hq (1 / x) ≤ hq x := by
  have h0 : x.num ≠ 0 := fun e => h (Rat.num_eq_zero.1 e)
  rw [← quo_over 1 x]
  have e1 : (1 : Rat).num = 1 := rfl
  have e2 : (1 : Rat).den = 1 := rfl
  rw [e1, e2, Int.one_mul, Int.natCast_one, Int.one_mul]
  exact hq_over h0 (by rw [Int.natAbs_natCast]; exact hq_den x) (hq_num x)
theorem T4_4_next {B : Nat} {w0 w w' : World} {a0 a1 a2 a3 b0 b1 b2 b3 : Addr} {v0 v1 v2 v3 : Value} (hb : Below w.heap.size w w') (h : w.cell? a0 = some v0 ∧ w.cell? a1 = some v1 ∧ w.cell? a2 = some v2 ∧ w.cell? a3 = some v3 ∧ w.cell? b0 = some (cellOf w b0) ∧ w.frozen? b0 = false ∧ w.cell? b1 = some (cellOf w b1) ∧ w.frozen? b1 = false ∧ w.cell? b2 = some (cellOf w b2) ∧ w.frozen? b2 = false ∧ w.cell? b3 = some (cellOf w b3) ∧ w.frozen? b3 = false ∧ Below B w0 w ∧ B ≤ w.heap.size) : w'.cell? a0 = some v0 ∧ w'.cell? a1 = some v1 ∧ w'.cell? a2 = some v2 ∧ w'.cell? a3 = some v3 ∧ w'.cell? b0 = some (cellOf w' b0) ∧ w'.frozen? b0 = false ∧ w'.cell? b1 = some (cellOf w' b1) ∧ w'.frozen? b1 = false ∧ w'.cell? b2 = some (cellOf w' b2) ∧ w'.frozen? b2 = false ∧ w'.cell? b3 = some (cellOf w' b3) ∧ w'.frozen? b3 = false ∧ Below B w0 w' ∧ B ≤ w'.heap.size := TT.next (B := B) (w0 := w0) (l := [(a0, v0), (a1, v1), (a2, v2), (a3, v3)]) (m := [b0, b1, b2, b3]) hb h
theorem T4_4_put {B : Nat} {w0 w : World} {a0 a1 a2 a3 b0 b1 b2 b3 : Addr} {v0 v1 v2 v3 : Value} (h : w.cell? a0 = some v0 ∧ w.cell? a1 = some v1 ∧ w.cell? a2 = some v2 ∧ w.cell? a3 = some v3 ∧ w.cell? b0 = some (cellOf w b0) ∧ w.frozen? b0 = false ∧ w.cell? b1 = some (cellOf w b1) ∧ w.frozen? b1 = false ∧ w.cell? b2 = some (cellOf w b2) ∧ w.frozen? b2 = false ∧ w.cell? b3 = some (cellOf w b3) ∧ w.frozen? b3 = false ∧ Below B w0 w ∧ B ≤ w.heap.size) {p0 p1 p2 p3 : Addr} {u0 u1 u2 u3 : Value} (hp0 : B ≤ p0.block) (hn0_0 : p0.block ≠ a0.block) (hn0_1 : p0.block ≠ a1.block) (hn0_2 : p0.block ≠ a2.block) (hn0_3 : p0.block ≠ a3.block) (hp1 : B ≤ p1.block) (hn1_0 : p1.block ≠ a0.block) (hn1_1 : p1.block ≠ a1.block) (hn1_2 : p1.block ≠ a2.block) (hn1_3 : p1.block ≠ a3.block) (hp2 : B ≤ p2.block) (hn2_0 : p2.block ≠ a0.block) (hn2_1 : p2.block ≠ a1.block) (hn2_2 : p2.block ≠ a2.block) (hn2_3 : p2.block ≠ a3.block) (hp3 : B ≤ p3.block) (hn3_0 : p3.block ≠ a0.block) (hn3_1 : p3.block ≠ a1.block) (hn3_2 : p3.block ≠ a2.block) (hn3_3 : p3.block ≠ a3.block) : ((((w.setCell p0 u0).setCell p1 u1).setCell p2 u2).setCell p3 u3).cell? a0 = some v0 ∧ ((((w.setCell p0 u0).setCell p1 u1).setCell p2 u2).setCell p3 u3).cell? a1 = some v1 ∧ ((((w.setCell p0 u0).setCell p1 u1).setCell p2 u2).setCell p3 u3).cell? a2 = some v2 ∧ ((((w.setCell p0 u0).setCell p1 u1).setCell p2 u2).setCell p3 u3).cell? a3 = some v3 ∧ ((((w.setCell p0 u0).setCell p1 u1).setCell p2 u2).setCell p3 u3).cell? b0 = some (cellOf ((((w.setCell p0 u0).setCell p1 u1).setCell p2 u2).setCell p3 u3) b0) ∧ ((((w.setCell p0 u0).setCell p1 u1).setCell p2 u2).setCell p3 u3).frozen? b0 = false ∧ ((((w.setCell p0 u0).setCell p1 u1).setCell p2 u2).setCell p3 u3).cell? b1 = some (cellOf ((((w.setCell p0 u0).setCell p1 u1).setCell p2 u2).setCell p3 u3) b1) ∧ ((((w.setCell p0 u0).setCell p1 u1).setCell p2 u2).setCell p3 u3).frozen? b1 = false ∧ ((((w.setCell p0 u0).setCell p1 u1).setCell p2 u2).setCell p3 u3).cell? b2 = some (cellOf ((((w.setCell p0 u0).setCell p1 u1).setCell p2 u2).setCell p3 u3) b2) ∧ ((((w.setCell p0 u0).setCell p1 u1).setCell p2 u2).setCell p3 u3).frozen? b2 = false ∧ ((((w.setCell p0 u0).setCell p1 u1).setCell p2 u2).setCell p3 u3).cell? b3 = some (cellOf ((((w.setCell p0 u0).setCell p1 u1).setCell p2 u2).setCell p3 u3) b3) ∧ ((((w.setCell p0 u0).setCell p1 u1).setCell p2 u2).setCell p3 u3).frozen? b3 = false ∧ Below B w0 ((((w.setCell p0 u0).setCell p1 u1).setCell p2 u2).setCell p3 u3) ∧ B ≤ ((((w.setCell p0 u0).setCell p1 u1).setCell p2 u2).setCell p3 u3).heap.size := (TT.put (B := B) (w0 := w0) (l := [(a0, v0), (a1, v1), (a2, v2), (a3, v3)]) (m := [b0, b1, b2, b3]) (TT.put (B := B) (w0 := w0) (l := [(a0, v0), (a1, v1), (a2, v2), (a3, v3)]) (m := [b0, b1, b2, b3]) (TT.put (B := B) (w0 := w0) (l := [(a0, v0), (a1, v1), (a2, v2), (a3, v3)]) (m := [b0, b1, b2, b3]) (TT.put (B := B) (w0 := w0) (l := [(a0, v0), (a1, v1), (a2, v2), (a3, v3)]) (m := [b0, b1, b2, b3]) h p0 u0 hp0 (by simp [*])) p1 u1 hp1 (by simp [*])) p2 u2 hp2 (by simp [*])) p3 u3 hp3 (by simp [*]))
theorem rowF_zero (C : Nat) (f : Nat → Int) (i q : Nat) (h : C ≤ q) : rowF C f i q = 0 := by unfold rowF; rw [if_neg (by omega)]
set_option maxHeartbeats 4000000 in
set_option maxRecDepth 100000 in
theorem c_eliminate (R C gA oA cA : Nat) (f : Nat → Int) (w : World) (hg : gA < w.heap.size) (hA : ∀ j, j < R * C → ZE (f j) w gA (oA + j * 2)) (hR : R ≤ 1000) (h0 : 0 < C) (hC : C ≤ 72) (hcap : R * C ≤ cA) (hcap2 : cA ≤ 9223372036854775807) (hf : ∀ j, (f j).natAbs ≤ 16777216) :
    Calls Tryz.prog 55 #[.agg #[.int .i64 R, .int .i64 C, .slice (some ⟨gA, oA, none⟩) (R * C : Nat) cA]] w fun e w' => (∃ G, e = .returned (.slice (some ⟨G, 0, none⟩) C C) ∧ w.heap.size ≤ G ∧ LeadTab (elim C (rowF C f) R) w' G C w'.heap.size) ∧ Below w.heap.size w w' := by
  have HA := Lib.hid hA
  have HCAP := Lib.hid (And.intro hcap hcap2)
  have HGOOD := Lib.hid (fun k => Good.elim (n := C) (B := 16777216) (by omega) (rowF_small hf) (rowF_zero C f) k)
  have HSM := Lib.hid (rowF_small (C := C) hf)
  have HTOP := Lib.hid (top_72 (n := C) (B := 16777216) hC (Nat.le_refl _))
  have HF := Lib.hid hf
  have hmk := makeL C (by omega)
  obtain ⟨RC, hRC⟩ : ∃ n, R * C = n := ⟨_, rfl⟩
  rw [hRC]
  clear hA hcap hcap2 hf
  go_enter Tryz.func55, Tryz.ntmps55
  go_wp2_with fail
  obtain ⟨wm, hwm⟩ : ∃ wm, w.alloc (.cells #[.int .i64 R, .int .i64 C, .slice (some ⟨gA, oA, none⟩) RC cA] 76) = wm := ⟨_, rfl⟩
  obtain ⟨X0, hbm⟩ := box1 w #[.int .i64 R, .int .i64 C, .slice (some ⟨gA, oA, none⟩) RC cA] 76
  rw [hwm] at X0 hbm
  have hsm : wm.heap.size = w.heap.size + 1 := by rw [← hwm]; simp
  have HT := Lib.hid (LeadTab.made wm C)
  obtain ⟨wn, hwn⟩ : ∃ wn, wm.alloc (.cells (madeCells #[.slice none 0 0] C) 113) = wn := ⟨_, rfl⟩
  have hbn : Below wm.heap.size wm wn := hwn ▸ (Below.refl _ _).alloc (Nat.le_refl _) _
  have hsn : wn.heap.size = wm.heap.size + 1 := by rw [← hwn]; simp
  rw [hwn] at HT
  rw [hwm, hwn]
  obtain ⟨G, hG⟩ : ∃ G, w.heap.size + 1 = G := ⟨_, rfl⟩
  rw [hG] at hsm ⊢
  obtain ⟨gm, hgm⟩ : ∃ gm, w.heap.size = gm := ⟨_, rfl⟩
  have HGM := Lib.hid (show gm < G by omega)
  have HB0 := Lib.hid (show Below w.heap.size w wm from hbm)
  have HGW := Lib.hid (show w.heap.size ≤ G by omega)
  rw [hsm] at HT hbn hsn
  rw [hgm] at X0 ⊢
  have HX := Lib.hid X0
  have HBN := Lib.hid hbn
  have HSN := Lib.hid hsn
  have HAG := Lib.hid (Nat.lt_of_lt_of_le hg hbm.size)
  have HAM := Lib.hid (fun j (hj : j < R * C) => (HA.out j hj).keep hbm)
  have HWM := Lib.hid hsm
  rw [hsm] at HAG
  have HT0 := Lib.hid (HT.out.up (Nat.le_of_eq hsn.symm))
  clear X0 hwm hwn hbn hsn hbm hsm hmk HA HT hG hgm hg
  go_loopw [4] (fun i wr => ∃ k : Nat, k ≤ R ∧ i = .int .i64 k ∧ LeadTab (elim C (rowF C f) k) wr G C wr.heap.size ∧ Below G wm wr) (fun i _ => R - (intOf i).toNat)
  case atStart => exact ⟨0, Nat.zero_le _, rfl, HT0.out, HBN.out⟩
  case round =>
    obtain ⟨k, hk, rfl, htab, hbr⟩ := hrel
    obtain ⟨wi, rfl⟩ : ∃ wi : World, wi = wr := ⟨_, rfl⟩
    have HTAB := Lib.hid htab
    have HBR := Lib.hid hbr
    have x0 := (HX.out.below_ hbr HGM.out).at_ 0 rfl
    have x1 := (HX.out.below_ hbr HGM.out).at_ 1 rfl
    have x2 := (HX.out.below_ hbr HGM.out).at_ 2 rfl
    clear htab hbr HT0 HBN
    by_cases hlt : k < R
    · obtain ⟨KC, hKC⟩ : ∃ n, k * C = n := ⟨_, rfl⟩
      have HKR := Lib.hid (show KC + C ≤ RC by
        have h1 := Nat.mul_le_mul_right C (show k + 1 ≤ R by omega)
        rw [Nat.succ_mul] at h1
        omega)
      have e1 : (k : Int) * (C : Int) = (KC : Nat) := by rw [← hKC]; push_cast; rfl
      have e2 : ((k : Int) + 1) * (C : Int) = ((KC + C : Nat)) := by rw [Int.add_mul, e1]; push_cast; omega
      have hcc := HCAP.out
      rw [hRC] at hcc
      have hkr := HKR.out
      have HKC := Lib.hid hKC
      have HAK := Lib.hid (fun j (hj : j < C) => show ZE (rowF C f k j) wm gA (oA + KC * 2 + j * 2) by
        have h := HAM.out (KC + j) (by rw [hRC]; omega)
        rw [show oA + (KC + j) * 2 = oA + KC * 2 + j * 2 by omega] at h
        unfold rowF
        rw [if_pos hj, hKC]
        exact h)
      clear hKC
      go_wp2_with fail
      rw [show KC + C - KC = C by omega]
      have hdC : C ≤ cA - KC := by omega
      clear e1 e2 hcc hkr x0 x1 x2
      have HBI := Lib.hid (show ∀ w1, Below wi.heap.size wi w1 → Below wm.heap.size wm w1 from fun w1 hb => HWM.out ▸ (HBR.out.trans (hb.mono (HWM.out ▸ HBR.out.size))))
      go_loopw [5, 33] (fun v ii w2 => ∃ j : Nat, j ≤ C ∧ ii = .int .i64 j ∧ OwnT (spr (rowF C f k) j) w2 wi.heap.size v ∧ Below wi.heap.size wi w2) (fun _ ii _ => C - (intOf ii).toNat)
      case atStart => exact ⟨0, Nat.zero_le _, rfl, OwnT.nil _ _, Below.refl _ _⟩
      case round =>
        obtain ⟨j, hj, rfl, hown, hb2⟩ := hrel
        obtain ⟨w2, rfl⟩ : ∃ w2 : World, w2 = wr := ⟨_, rfl⟩
        have HOWN := Lib.hid hown
        have HB2 := Lib.hid hb2
        clear hown hb2
        by_cases hjc : j < C
        · have hjci : (j : Int) < (C : Int) := by omega
          obtain ⟨s, p, n, c, a0, a1, hz⟩ := (HAK.out j hjc).keep (HBI.out _ HB2.out)
          have HZ := Lib.hid hz
          have HN := Lib.hid (show n ≤ 1 by rw [← hz.2.1]; exact nd_le.2 (by have := HSM.out k j; omega))
          clear hz
          go_wp2_with fail
          obtain ⟨w3, hw3⟩ : ∃ w3, w2.alloc (.cells #[.bool s, .slice p n c] 33) = w3 := ⟨_, rfl⟩
          obtain ⟨X3, hb3⟩ := box1 w2 #[.bool s, .slice p n c] 33
          rw [hw3] at X3 hb3 ⊢
          have HX3 := Lib.hid X3
          have HB3 := Lib.hid hb3
          have hbx : w2.heap.size < w3.heap.size := by rw [← hw3]; simp
          have HBX := Lib.hid hbx
          clear X3 hb3 hw3 a0 a1 hbx
          refine (c_Sign s p n c _ w3 (HZ.out.keep HB3.out).raw (by have := HN.out; omega)).mono ?_
          rintro e w4 ⟨rfl, hb4⟩
          have HB24 := Lib.hid (HB3.out.trans (hb4.mono HB3.out.size))
          have HB4 := Lib.hid (HB2.out.trans (HB24.out.mono HB2.out.size))
          have y0 := (HX3.out.below_ hb4 HBX.out).at_ 0 rfl
          have y1 := (HX3.out.below_ hb4 HBX.out).at_ 1 rfl
          clear hb4
          by_cases hz0 : rowF C f k j = 0
          · have hs0 : Int.sign (rowF C f k j) = 0 := by rw [hz0]; rfl
            have HZ0 := Lib.hid hz0
            rw [hs0]
            clear hz0 hs0
            go_wp2
            go_roundw
            case rel => exact ⟨j + 1, by omega, by go_num, by rw [spr, if_pos HZ0.out]; exact HOWN.out.keep HB24.out, HB4.out⟩
            case measure => simp [intOf]; omega
          · have hs0 : (Int.sign (rowF C f k j) != 0) = true := by
              have : Int.sign (rowF C f k j) ≠ 0 := fun e => hz0 (Int.sign_eq_zero_iff_zero.1 e)
              simpa using this
            have HZ0 := Lib.hid hz0
            clear hz0
            go_wp2_with fail
            refine (c_qWhole s p n c _ w4 (HZ.out.keep HB24.out) (by have := HN.out; omega)).mono ?_
            rintro e w5 ⟨⟨s4, p4, n4, c4, t4, q4, m4, d4, rfl, hq4⟩, hb5⟩
            have HQ4 := Lib.hid hq4
            have HB25 := Lib.hid (HB24.out.trans (hb5.mono HB24.out.size))
            have HB5 := Lib.hid (HB2.out.trans (HB25.out.mono HB2.out.size))
            obtain ⟨xs, hKO, hXO⟩ := HOWN.out.keep HB25.out
            have HKO := Lib.hid hKO
            have HXO := Lib.hid hXO
            have HLN := Lib.hid (ord_length (ord_spr (rowF C f k) j))
            clear hq4 hb5 hKO hXO y0 y1 hs0
            go_wp2_with (at_builtin; refine wpl_app2 NotU32 rfl (.tmp 41) (.tmp 46) _ 115 rfl Tryz.underlying113 termInfo rfl (by decide) wi.heap.size (spr (rowF C f k) j).length u5 xs [.int .i64 (j : Int), .bool s4, .slice p4 n4 c4, .bool t4, .slice q4 m4 d4] rfl HKO.out rfl rfl (oneT _ _ _ _ _ _ _ _ _) (by have := HLN.out; omega) (by have := HLN.out; omega) HB5.out.size (nuT _ _ _ _ _ _ _ _ _) nuTz ?_; intro v9 w9 hown9 hgr9 hat9; have HO9 := Lib.hid (OwnT.push HKO.out HXO.out j (rowF C f k j : Rat) HQ4.out hown9 hgr9); have HB9 := Lib.hid (HB5.out.trans (own_below (Below.refl _ _) HKO.out.1 hgr9 (Nat.le_refl _) HB5.out.size)); clear hown9 hgr9 hat9)
            go_roundw
            case rel => exact ⟨j + 1, by omega, by go_num, by rw [spr, if_neg HZ0.out]; exact HO9.out, HB9.out⟩
            case measure => simp [intOf]; omega
        · obtain rfl : C = j := by omega
          go_wp2
          obtain ⟨L, hL⟩ : ∃ L, elim C (rowF C f) k = L := ⟨_, rfl⟩
          have HL := Lib.hid hL
          have HGL := Lib.hid (show Eli.Good C 16777216 L from hL ▸ HGOOD.out k)
          rw [hL] at HTAB
          clear hL
          go_loopw [5] (fun v w3 => ∃ (m t : Nat) (r : List (Nat × Rat)), m ≤ t ∧ t ≤ C ∧ redN L m (spr (rowF C f k) C) = r ∧ RowOk C L (rowF C f k) t r ∧ OwnT r w3 wi.heap.size v ∧ Below wi.heap.size wi w3) (fun v w3 => msr C w3 v)
          case atStart => exact ⟨0, 0, _, Nat.le_refl _, Nat.zero_le _, rfl, RowOk.first C L _ (rowF_zero C f k), HOWN.out, HB2.out⟩
          case round =>
            obtain ⟨m, t0, r, hm, ht, hr, hok, hown, hb3⟩ := hrel
            obtain ⟨w3, rfl⟩ : ∃ w3 : World, w3 = wr := ⟨_, rfl⟩
            have HB3 := Lib.hid hb3
            have HRR := Lib.hid hr
            have HOK := Lib.hid hok
            have HM := Lib.hid (And.intro hm ht)
            clear hb3 hr HOWN HB2 hm ht
            cases r with
            | nil =>
              rcases hown.row with ⟨_, rfl⟩ | ⟨g, cap, rfl, _, _, _, _, _⟩
              · have HE := Lib.hid (show elim C (rowF C f) (k + 1) = L by
                  rw [elim, HL.out, redN_still (by rw [HRR.out]; rfl) C (Nat.le_trans HM.out.1 HM.out.2), HRR.out]; rfl)
                clear hown hok
                go_wp2
                go_roundw
                case rel => exact ⟨k + 1, by omega, by go_num, by rw [HE.out]; exact (HTAB.out.keep (Nat.le_refl _) HB3.out).up HB3.out.size, HBR.out.trans (HB3.out.mono (HWM.out ▸ HBR.out.size))⟩
                case measure => simp [intOf]; omega
              · have HE := Lib.hid (show elim C (rowF C f) (k + 1) = L by
                  rw [elim, HL.out, redN_still (by rw [HRR.out]; rfl) C (Nat.le_trans HM.out.1 HM.out.2), HRR.out]; rfl)
                clear hown hok
                go_wp2
                go_roundw
                case rel => exact ⟨k + 1, by omega, by go_num, by rw [HE.out]; exact (HTAB.out.keep (Nat.le_refl _) HB3.out).up HB3.out.size, HBR.out.trans (HB3.out.mono (HWM.out ▸ HBR.out.size))⟩
                case measure => simp [intOf]; omega
            | cons x r =>
              have HOWN := Lib.hid hown
              rcases hown.row with ⟨he, _⟩ | ⟨g, cap, rfl, hc1, hc2, hgi, hg3, htr⟩
              · cases he
              have HTR := Lib.hid htr
              obtain ⟨a0, s, p, n, c, t, q, m1, d, a1, a2, a3, a4, hq⟩ := htr.val 0 x rfl
              rw [Nat.zero_mul] at a0 a1 a2 a3 a4
              rw [Nat.zero_add] at a1 a2 a3 a4
              have HQX := Lib.hid (show Qs w3 s p n c t q m1 d x.2 from hq)
              have hxC : x.1 < C := hok.1.2.1
              have HX0 := Lib.hid hok.1.2.2.1
              have HSZ := Lib.hid (hok.size HGL.out (HSM.out k)).1
              have HT3 := Lib.hid ((HTAB.out.keep (Nat.le_refl _) HB3.out).up HB3.out.size)
              obtain ⟨lv, l0, htl, hnil⟩ := HT3.out.val x.1 hxC
              have HTL := Lib.hid htl
              have HLEN := Lib.hid (show (x :: r).length ≤ 72 from Nat.le_trans (ord_length hok.1) (by omega))
              rw [List.length_cons] at hc1 ⊢
              have hxi : (x.1 : Int) < (C : Int) := by omega
              have hgt0 : (0 : Int) < ((r.length : Int) + 1) := by omega
              have hn0 : (((r.length : Nat) : Int) + 1 == 0) = false := by simp; omega
              have hG3 : G < w3.heap.size := HT3.out.stk.1
              have HCP := Lib.hid (And.intro hc1 hc2)
              clear hown htr hq htl
              by_cases hL0 : L x.1 = []
              · obtain rfl := hnil hL0
                have HL0 := Lib.hid hL0
                clear hL0 hnil hok
                go_wp2_with fail
                have HSN2 := Lib.hid (show redN L C (spr (rowF C f k) C) = x :: r by rw [redN_still (by rw [HRR.out]; exact red_still HL0.out) C (Nat.le_trans HM.out.1 HM.out.2), HRR.out])
                have HE := Lib.hid (show elim C (rowF C f) (k + 1) = fun j => if j = x.1 then scl (x :: r) else L j by rw [elim, HL.out, HSN2.out]; rfl)
                have HIN := Lib.hid (hq_inv HX0.out)
                have HQS := Lib.hid (show hq x.2 ≤ 80 from Nat.le_trans (HSZ.out x (List.mem_cons_self ..)) HTOP.out)
                have HS1 := Lib.hid (show ∀ w1, Below w3.heap.size w3 w1 → (w1.cell? ⟨g, 1, none⟩ = some (.bool s) ∧ w1.cell? ⟨g, 2, none⟩ = some (.slice p n c) ∧ w1.cell? ⟨g, 3, none⟩ = some (.bool t) ∧ w1.cell? ⟨g, 4, none⟩ = some (.slice q m1 d)) from fun w1 hb => ⟨cell_next hb a1, cell_next hb a2, cell_next hb a3, cell_next hb a4⟩)
                clear HM HRR HSN2 a0 a1 a2 a3 a4 l0
                go_cut [8, 9] from 78 to 86 (fun v8 v9 wd => ∃ Rv s4 p4 n4 c4 t4 q4 m4 d4, v8 = .pointer (some ⟨Rv, 0, none⟩) ∧ wd.cell? ⟨Rv, 0, none⟩ = some (.bool s4) ∧ wd.cell? ⟨Rv, 1, none⟩ = some (.slice p4 n4 c4) ∧ wd.cell? ⟨Rv, 2, none⟩ = some (.bool t4) ∧ wd.cell? ⟨Rv, 3, none⟩ = some (.slice q4 m4 d4) ∧ Qs wd s4 p4 n4 c4 t4 q4 m4 d4 (1 / x.2) ∧ Below w3.heap.size w3 wd ∧ w3.heap.size ≤ Rv)
                case first =>
                  go_region_held3 (fun w1 => w1.cell? ⟨g, 1, none⟩ = some (.bool s) ∧ w1.cell? ⟨g, 2, none⟩ = some (.slice p n c) ∧ w1.cell? ⟨g, 3, none⟩ = some (.bool t) ∧ w1.cell? ⟨g, 4, none⟩ = some (.slice q m1 d))
                    (first | exact HS1.out _ (by first | exact (Below.refl _ w3).drew | exact Below.refl _ w3 | exact ((Below.refl _ w3).drew).alloc (Nat.le_refl _) _ | exact (Below.refl _ w3).alloc (Nat.le_refl _) _ | exact ((Below.refl _ w3).alloc (Nat.le_refl _) _).drew) | with_reducible exact HS1.out _ hbB | exact HS1.out _ (hbB.alloc hsB _) | with_reducible exact HS1.out _ (below_putR hbB hRB.out _ _ _ _) | with_reducible exact HS1.out _ (below_putR hbB (Nat.le_refl _) _ _ _ _) | with_reducible exact HS1.out _ (below_putR (hbB.alloc hsB _) hsB _ _ _ _) | (exfalso; assumption))
                    (first
                      | (go_at_call 49; refine (c_qOf 1 _ (by omega) (by omega)).mono ?_; rintro e w4 ⟨⟨s3, p3, n3, c3, t3, q3, m3, d3, rfl, hz3⟩, hb2⟩; have hbV : Below w3.heap.size w3 w4 := Below.trans (show Below w3.heap.size w3 _ from (by first | exact (Below.refl _ w3).drew | exact Below.refl _ w3 | exact ((Below.refl _ w3).drew).alloc (Nat.le_refl _) _ | exact (Below.refl _ w3).alloc (Nat.le_refl _) _ | exact ((Below.refl _ w3).alloc (Nat.le_refl _) _).drew)) (Below.mono hb2 (Below.size (show Below w3.heap.size w3 _ from (by first | exact (Below.refl _ w3).drew | exact Below.refl _ w3 | exact ((Below.refl _ w3).drew).alloc (Nat.le_refl _) _ | exact (Below.refl _ w3).alloc (Nat.le_refl _) _ | exact ((Below.refl _ w3).alloc (Nat.le_refl _) _).drew)))); have hbB := hbV; have hsB := hbV.size; (first | have fa := freshQ (W := w3.drew) w3.heap.size rfl hb2 | have fa := freshQ (W := w3) w3.heap.size rfl hb2 | skip))
                      | (go_at_call 102; refine (c_qQuoQ s3 p3 n3 c3 t3 q3 m3 d3 1 s p n c t q m1 d x.2 _ (by first | exact hz3 | exact hz3.keep ((Below.refl _ _).alloc (Nat.le_refl _) _)) (HQX.out.keep (show Below w3.heap.size w3 _ from (by first | exact hbV | exact hbV.alloc hbV.size _))) (by rw [hq_one]; omega) (by have := HQS.out; omega) HX0.out).mono ?_; rintro e w5 ⟨⟨s4, p4, n4, c4, t4, q4, m4, d4, rfl, hz4⟩, hb3⟩; have hbW : Below w3.heap.size w3 w5 := Below.trans (show Below w3.heap.size w3 _ from (by first | exact hbV | exact hbV.alloc hbV.size _)) (Below.mono hb3 (Below.size (show Below w3.heap.size w3 _ from (by first | exact hbV | exact hbV.alloc hbV.size _)))); have hbB := hbW; have hsB := hbW.size; (first | have fa := freshQ_next (by first | exact hb3) fa | have fa := freshQ w4.heap.size rfl hb3 | skip); have hRB := Lib.hid (show w3.heap.size ≤ w4.heap.size from hbV.size)))
                  all_goals go_wp2
                  all_goals go_meet
                  all_goals first
                    | exact ⟨w5.heap.size, s4, p4, n4, c4, t4, q4, m4, d4, rfl, (Blk.new w5 35 #[.bool s4, .slice p4 n4 c4, .bool t4, .slice q4 m4 d4]).at_ 0 rfl, (Blk.new w5 35 #[.bool s4, .slice p4 n4 c4, .bool t4, .slice q4 m4 d4]).at_ 1 rfl, (Blk.new w5 35 #[.bool s4, .slice p4 n4 c4, .bool t4, .slice q4 m4 d4]).at_ 2 rfl, (Blk.new w5 35 #[.bool s4, .slice p4 n4 c4, .bool t4, .slice q4 m4 d4]).at_ 3 rfl, hz4.keep ((Below.refl _ _).alloc (Nat.le_refl _) _), hbW.alloc hbW.size _, hbW.size⟩
                    | (obtain ⟨E0, E1, E2, E3, hq9⟩ := rat_put fa.2.2.2.2.2.2.2.2 hz4 rfl; exact ⟨_, s4, p4, n4, c4, t4, q4, m4, d4, rfl, E0, E1, E2, E3, hq9, below_putR hbW (by first | exact Nat.le_refl _ | exact hbV.size) _ _ _ _, by first | exact Nat.le_refl _ | exact hbV.size⟩)
                case rest =>
                  obtain ⟨Rv, s4, p4, n4, c4, t4, q4, m4, d4, rfl, e0, e1, e2, e3, hz, hbd, hRv⟩ := hcut
                  obtain ⟨wd, rfl⟩ : ∃ wd : World, wd = wc := ⟨_, rfl⟩
                  have HZ4 := Lib.hid hz
                  have HBD := Lib.hid hbd
                  have HRV := Lib.hid (show Rv ≠ g by omega)
                  have HEC := Lib.hid (And.intro e0 (And.intro e1 (And.intro e2 e3)))
                  have HTRD := Lib.hid (show TRow (sclAt (1 / x.2) 0 (x :: r)) wd g by rw [sclAt_zero]; exact HTR.out.keep hbd)
                  have HMS := Lib.hid (fun y (hy : y ∈ x :: r) => show hq y.2 ≤ 80 from Nat.le_trans (HSZ.out y hy) HTOP.out)
                  clear hz hbd hRv e0 e1 e2 e3 HS1 HTR
                  go_wp2
                  go_loopw [89] (fun ii w5 => ∃ j : Nat, j ≤ (x :: r).length ∧ ii = .int .i64 j ∧ TRow (sclAt (1 / x.2) j (x :: r)) w5 g ∧ wd.grownBy w5 (some g) ∧ I32 wd w5) (fun ii _ => r.length + 1 - (intOf ii).toNat)
                  case atStart => exact ⟨0, Nat.zero_le _, rfl, HTRD.out, but_below g (Below.refl _ _), I32.refl _⟩
                  case round =>
                    obtain ⟨j, hj, rfl, htr5, hgr, h32⟩ := hrel
                    obtain ⟨w5, rfl⟩ : ∃ w5 : World, w5 = wr := ⟨_, rfl⟩
                    have HTR5 := Lib.hid htr5
                    have HGR := Lib.hid hgr
                    have H32 := Lib.hid h32
                    clear htr5 hgr h32 HTRD
                    by_cases hjr : j < (x :: r).length
                    · obtain ⟨y, hy⟩ : ∃ y, (x :: r)[j]? = some y := ⟨_, List.getElem?_eq_getElem hjr⟩
                      have hyl : y ∈ x :: r := List.mem_of_getElem? hy
                      obtain ⟨_, s', p', n', c', t', q', m', d', b1, b2, b3, b4, hqy⟩ := HTR5.out.elem hy
                      have HQY := Lib.hid (show Qs w5 s' p' n' c' t' q' m' d' y.2 from hqy)
                      have HEE := Lib.hid (show w5.drew.cell? ⟨g, j * 5 + 1, none⟩ = some (.bool s') ∧ w5.drew.cell? ⟨g, j * 5 + 2, none⟩ = some (.slice p' n' c') ∧ w5.drew.cell? ⟨g, j * 5 + 3, none⟩ = some (.bool t') ∧ w5.drew.cell? ⟨g, j * 5 + 4, none⟩ = some (.slice q' m' d') from ⟨b1, b2, b3, b4⟩)
                      have z0 := HGR.out.cell HEC.out.1 (fun e => by injection e with e; exact HRV.out e)
                      have z1 := HGR.out.cell HEC.out.2.1 (fun e => by injection e with e; exact HRV.out e)
                      have z2 := HGR.out.cell HEC.out.2.2.1 (fun e => by injection e with e; exact HRV.out e)
                      have z3 := HGR.out.cell HEC.out.2.2.2 (fun e => by injection e with e; exact HRV.out e)
                      have HM1 := Lib.hid (fun w1 (hb : Below w5.heap.size w5 w1) => c_qMulQ s4 p4 n4 c4 t4 q4 m4 d4 (1 / x.2) s' p' n' c' t' q' m' d' y.2 w1 ((HZ4.out.i32 H32.out).keep hb) (HQY.out.keep hb) (by have := HIN.out; have := HQS.out; omega) (by have := HMS.out y hyl; omega))
                      have hra := HTR5.out
                      have hrl : (sclAt (1 / x.2) j (x :: r)).length = r.length + 1 := by rw [sclAt_length]; rfl
                      have hjr2 : j < r.length + 1 := hjr
                      have hji : (j : Int) < (r.length : Int) + 1 := by omega
                      have hnR : g ≠ Rv := fun e => HRV.out e.symm
                      have hnR2 := HRV.out
                      clear b1 b2 b3 b4 hqy
                      go_upto_region 19 with (fail)
                      have hS1 : w5.cell? ⟨Rv, 0, none⟩ = some (.bool s4) ∧ w5.cell? ⟨Rv, 1, none⟩ = some (.slice p4 n4 c4) ∧ w5.cell? ⟨Rv, 2, none⟩ = some (.bool t4) ∧ w5.cell? ⟨Rv, 3, none⟩ = some (.slice q4 m4 d4) ∧ w5.cell? ⟨g, j * 5 + 1, none⟩ = some (cellOf w5 ⟨g, j * 5 + 1, none⟩) ∧ w5.frozen? ⟨g, j * 5 + 1, none⟩ = false ∧ w5.cell? ⟨g, j * 5 + 2, none⟩ = some (cellOf w5 ⟨g, j * 5 + 2, none⟩) ∧ w5.frozen? ⟨g, j * 5 + 2, none⟩ = false ∧ w5.cell? ⟨g, j * 5 + 3, none⟩ = some (cellOf w5 ⟨g, j * 5 + 3, none⟩) ∧ w5.frozen? ⟨g, j * 5 + 3, none⟩ = false ∧ w5.cell? ⟨g, j * 5 + 4, none⟩ = some (cellOf w5 ⟨g, j * 5 + 4, none⟩) ∧ w5.frozen? ⟨g, j * 5 + 4, none⟩ = false ∧ Below 0 w5 w5 ∧ 0 ≤ w5.heap.size := ⟨z0, z1, z2, z3, cellOf_some (hra.has _ (by omega)), hra.free _ (by omega), cellOf_some (hra.has _ (by omega)), hra.free _ (by omega), cellOf_some (hra.has _ (by omega)), hra.free _ (by omega), cellOf_some (hra.has _ (by omega)), hra.free _ (by omega), (Below.refl 0 w5), Nat.zero_le _⟩
                      have hS0 : w5.drew.cell? ⟨Rv, 0, none⟩ = some (.bool s4) ∧ w5.drew.cell? ⟨Rv, 1, none⟩ = some (.slice p4 n4 c4) ∧ w5.drew.cell? ⟨Rv, 2, none⟩ = some (.bool t4) ∧ w5.drew.cell? ⟨Rv, 3, none⟩ = some (.slice q4 m4 d4) ∧ w5.drew.cell? ⟨g, j * 5 + 1, none⟩ = some (cellOf w5.drew ⟨g, j * 5 + 1, none⟩) ∧ w5.drew.frozen? ⟨g, j * 5 + 1, none⟩ = false ∧ w5.drew.cell? ⟨g, j * 5 + 2, none⟩ = some (cellOf w5.drew ⟨g, j * 5 + 2, none⟩) ∧ w5.drew.frozen? ⟨g, j * 5 + 2, none⟩ = false ∧ w5.drew.cell? ⟨g, j * 5 + 3, none⟩ = some (cellOf w5.drew ⟨g, j * 5 + 3, none⟩) ∧ w5.drew.frozen? ⟨g, j * 5 + 3, none⟩ = false ∧ w5.drew.cell? ⟨g, j * 5 + 4, none⟩ = some (cellOf w5.drew ⟨g, j * 5 + 4, none⟩) ∧ w5.drew.frozen? ⟨g, j * 5 + 4, none⟩ = false ∧ Below 0 w5 w5.drew ∧ 0 ≤ w5.drew.heap.size := T4_4_next (Below.refl _ w5).drew hS1
                      clear z0 z1 z2 z3 hra hS1
                      have M1 : True := trivial
                      refine wp_region_held_drew (S := (fun w1 => w1.cell? ⟨Rv, 0, none⟩ = some (.bool s4) ∧ w1.cell? ⟨Rv, 1, none⟩ = some (.slice p4 n4 c4) ∧ w1.cell? ⟨Rv, 2, none⟩ = some (.bool t4) ∧ w1.cell? ⟨Rv, 3, none⟩ = some (.slice q4 m4 d4) ∧ w1.cell? ⟨g, j * 5 + 1, none⟩ = some (cellOf w1 ⟨g, j * 5 + 1, none⟩) ∧ w1.frozen? ⟨g, j * 5 + 1, none⟩ = false ∧ w1.cell? ⟨g, j * 5 + 2, none⟩ = some (cellOf w1 ⟨g, j * 5 + 2, none⟩) ∧ w1.frozen? ⟨g, j * 5 + 2, none⟩ = false ∧ w1.cell? ⟨g, j * 5 + 3, none⟩ = some (cellOf w1 ⟨g, j * 5 + 3, none⟩) ∧ w1.frozen? ⟨g, j * 5 + 3, none⟩ = false ∧ w1.cell? ⟨g, j * 5 + 4, none⟩ = some (cellOf w1 ⟨g, j * 5 + 4, none⟩) ∧ w1.frozen? ⟨g, j * 5 + 4, none⟩ = false ∧ Below 0 w5 w1 ∧ 0 ≤ w1.heap.size)) (by kernel_rfl) ?_ (fun hHeld0 => ?_)
                      focus ((try dsimp only); (first | with_reducible exact hS0 | with_reducible assumption | (refine T4_4_next (by with_reducible assumption) ?_; assumption) | (refine T4_4_put ?_ ?_ ?_ ?_ ?_ ?_ ?_ ?_ ?_ ?_ ?_ ?_ ?_ ?_ ?_ ?_ ?_ ?_ ?_ ?_ ?_ <;> first | assumption | (dsimp only; omega) | (simp; done))))
                      refine wpAnyH_take (i := 0) (v := ?_) rfl (by kernel_rfl) (by kernel_rfl) (by kernel_rfl) (fun _ _ _ h => h) (Or.inl ⟨by rfl, ?_⟩) (by assumption) ?_
                      rotate_left
                      focus (intro w hSw; (try dsimp only at hSw); go_simp; (try with_reducible rfl))
                      focus (try simp only [Act.put, List.setIfInBounds_toArray, List.set_cons_zero, List.set_cons_succ])
                      refine wpAnyH_take (i := 1) (v := ?_) rfl (by kernel_rfl) (by kernel_rfl) (by kernel_rfl) (fun _ _ _ h => h) (Or.inl ⟨by rfl, ?_⟩) (by assumption) ?_
                      rotate_left
                      focus (intro w hSw; (try dsimp only at hSw); go_simp; (try with_reducible rfl))
                      focus (try simp only [Act.put, List.setIfInBounds_toArray, List.set_cons_zero, List.set_cons_succ])
                      refine wpAnyH_take (i := 2) (v := ?_) rfl (by kernel_rfl) (by kernel_rfl) (by kernel_rfl) (fun _ _ _ h => h) (Or.inl ⟨by rfl, ?_⟩) (by assumption) ?_
                      rotate_left
                      focus (intro w hSw; (try dsimp only at hSw); go_simp; (try with_reducible rfl))
                      focus (try simp only [Act.put, List.setIfInBounds_toArray, List.set_cons_zero, List.set_cons_succ])
                      refine wpAnyH_take (i := 3) (v := ?_) rfl (by kernel_rfl) (by kernel_rfl) (by kernel_rfl) (fun _ _ _ h => h) (Or.inl ⟨by rfl, ?_⟩) (by assumption) ?_
                      rotate_left
                      focus (intro w hSw; (try dsimp only at hSw); go_simp; (try with_reducible rfl))
                      focus (try simp only [Act.put, List.setIfInBounds_toArray, List.set_cons_zero, List.set_cons_succ])
                      refine wpAnyH_take (i := 4) (v := ?_) rfl (by kernel_rfl) (by kernel_rfl) (by kernel_rfl) (fun _ _ _ h => h) (Or.inl ⟨by rfl, ?_⟩) (by assumption) ?_
                      rotate_left
                      focus (intro w hSw; (try dsimp only at hSw); go_simp; (try with_reducible rfl))
                      focus (try simp only [Act.put, List.setIfInBounds_toArray, List.set_cons_zero, List.set_cons_succ])
                      refine wpAnyH_take (i := 5) (v := ?_) rfl (by kernel_rfl) (by kernel_rfl) (by kernel_rfl) (fun _ _ _ h => h) (Or.inl ⟨by rfl, ?_⟩) (by assumption) ?_
                      rotate_left
                      focus (intro w hSw; (try dsimp only at hSw); go_simp; (try with_reducible rfl))
                      focus (try simp only [Act.put, List.setIfInBounds_toArray, List.set_cons_zero, List.set_cons_succ])
                      refine wpAnyH_take (i := 6) (v := ?_) rfl (by kernel_rfl) (by kernel_rfl) (by kernel_rfl) (fun _ _ _ h => h) (Or.inl ⟨by rfl, ?_⟩) (by assumption) ?_
                      rotate_left
                      focus (intro w hSw; (try dsimp only at hSw); go_simp; (try with_reducible rfl))
                      focus (try simp only [Act.put, List.setIfInBounds_toArray, List.set_cons_zero, List.set_cons_succ])
                      refine wpAnyH_ready (rs := [7]) (by kernel_rfl) (by simp) ?_
                      refine AllReadyH.cons rfl (fun K hK => ?_) ?_
                      focus (go_simp; refine hK.out _ _ ?_ (fun hHeld1 => ?_))
                      focus ((try dsimp only); (first | with_reducible exact hS0 | with_reducible assumption | (refine T4_4_next (by with_reducible assumption) ?_; assumption) | (refine T4_4_put ?_ ?_ ?_ ?_ ?_ ?_ ?_ ?_ ?_ ?_ ?_ ?_ ?_ ?_ ?_ ?_ ?_ ?_ ?_ ?_ ?_ <;> first | assumption | (dsimp only; omega) | (simp; done))))
                      focus (clear hK K hHeld0; (try simp only [Act.put, List.setIfInBounds_toArray, List.set_cons_zero, List.set_cons_succ]))
                      refine wpAnyH_ready (rs := [8]) (by kernel_rfl) (by simp) ?_
                      refine AllReadyH.cons rfl (fun K hK => ?_) ?_
                      focus (go_simp; (first | (go_at_call 38; rw [cellOf_eq HEE.out.1, cellOf_eq HEE.out.2.1, cellOf_eq HEE.out.2.2.1, cellOf_eq HEE.out.2.2.2]; refine (HM1.out _ (by first | exact (Below.refl _ w5).drew | exact Below.refl _ w5)).mono ?_; rintro e w6 ⟨⟨s6, p6, n6, c6, t6, q6, m6, d6, rfl, hz6⟩, hb6⟩; have hbe : Below w5.heap.size w5 w6 := (by first | exact (Below.refl _ w5).drew.trans hb6 | exact hb6); have hrr := HTR5.out.keep hbe; have HPUT := Lib.hid (hrr.scl hy hz6); have HG6 := Lib.hid (show ∀ v0 v1 v2 v3, wd.grownBy ((((w6.setCell ⟨g, j * 5 + 1, none⟩ v0).setCell ⟨g, j * 5 + 2, none⟩ v1).setCell ⟨g, j * 5 + 3, none⟩ v2).setCell ⟨g, j * 5 + 4, none⟩ v3) (some g) from fun _ _ _ _ => scl_grown HGR.out hbe); have H6 := Lib.hid ((H32.out.trans (I32.below hbe)).trans (I32.putT (k := j) hrr.stk s6 t6 p6 q6 n6 c6 m6 d6).2); clear hz6 hbe hrr)); (first | done | with_reducible refine hK.out _ _ ?_ (fun hHeld2 => ?_) | (go_wp2_with fail; with_reducible refine hK.out _ _ ?_ (fun hHeld2 => ?_))))
                      focus ((try dsimp only); (first | with_reducible exact hS0 | with_reducible assumption | (refine T4_4_next (by with_reducible assumption) ?_; assumption) | (refine T4_4_put ?_ ?_ ?_ ?_ ?_ ?_ ?_ ?_ ?_ ?_ ?_ ?_ ?_ ?_ ?_ ?_ ?_ ?_ ?_ ?_ ?_ <;> first | assumption | (dsimp only; omega) | (simp; done))))
                      focus (clear hK K hHeld1; (try simp only [Act.put, List.setIfInBounds_toArray, List.set_cons_zero, List.set_cons_succ]))
                      refine wpAnyH_take (i := 9) (v := ?_) rfl (by kernel_rfl) (by kernel_rfl) (by kernel_rfl) (fun _ _ _ h => h) (Or.inl ⟨by rfl, ?_⟩) (by assumption) ?_
                      rotate_left
                      focus (intro w hSw; (try dsimp only at hSw); go_simp; (try with_reducible rfl))
                      focus (try simp only [Act.put, List.setIfInBounds_toArray, List.set_cons_zero, List.set_cons_succ])
                      refine wpAnyH_take (i := 10) (v := ?_) rfl (by kernel_rfl) (by kernel_rfl) (by kernel_rfl) (fun _ _ _ h => h) (Or.inl ⟨by rfl, ?_⟩) (by assumption) ?_
                      rotate_left
                      focus (intro w hSw; (try dsimp only at hSw); go_simp; (try with_reducible rfl))
                      focus (try simp only [Act.put, List.setIfInBounds_toArray, List.set_cons_zero, List.set_cons_succ])
                      refine wpAnyH_ready (rs := [11]) (by kernel_rfl) (by simp) ?_
                      refine AllReadyH.cons rfl (fun K hK => ?_) ?_
                      focus (go_simp; refine hK.out _ _ ?_ (fun hHeld3 => ?_))
                      focus ((try dsimp only); (first | with_reducible exact hS0 | with_reducible assumption | (refine T4_4_next (by with_reducible assumption) ?_; assumption) | (refine T4_4_put ?_ ?_ ?_ ?_ ?_ ?_ ?_ ?_ ?_ ?_ ?_ ?_ ?_ ?_ ?_ ?_ ?_ ?_ ?_ ?_ ?_ <;> first | assumption | (dsimp only; omega) | (simp; done))))
                      focus (clear hK K hHeld2; (try simp only [Act.put, List.setIfInBounds_toArray, List.set_cons_zero, List.set_cons_succ]))
                      focus (refine wpAnyH_done (by kernel_rfl) ?_ _)
                      rotate_left
                      exact AllReadyH.nil
                      exact AllReadyH.nil
                      exact AllReadyH.nil
                      all_goals go_wp2
                      all_goals go_roundw
                      all_goals first
                        | exact ⟨j + 1, hjr2, by go_num, HPUT.out, HG6.out _ _ _ _, H6.out⟩
                        | (simp [intOf]; omega)
                    · obtain rfl : (x :: r).length = j := by omega
                      have HFIN := Lib.hid (show TRow (scl (x :: r)) w5 g by
                        have h := HTR5.out
                        rw [sclAt_all] at h
                        exact h)
                      have f0 := (HFIN.out.val 0 (x.1, 1 / x.2 * x.2) rfl).1
                      rw [Nat.zero_mul] at f0
                      have HBW := Lib.hid (show Below wi.heap.size wi w5 from below_but (HB3.out.trans (HBD.out.mono HB3.out.size)) HGR.out (Nat.le_trans HB3.out.size HBD.out.size) hgi)
                      have H32W := Lib.hid (show I32 wi w5 from ((I32.below (HB3.out.trans (HBD.out.mono HB3.out.size)))).trans H32.out)
                      have HT5 := Lib.hid ((HTAB.out.next H32W.out HBW.out HTAB.out.stk.1 (Nat.le_refl _)).up HBW.out.size)
                      obtain ⟨v5, l5, _, _⟩ := HT5.out.val x.1 hxC
                      have l5f := HT5.out.free x.1 hxC
                      have hsl : (scl (x :: r)).length = r.length + 1 := by rw [scl, List.length_map]; rfl
                      have hpt := HT5.out.put (l := scl (x :: r)) hxC (by rw [scl]; intro e; cases e) (HFIN.out.tl (cap := cap) (by rw [scl, List.length_map]; exact HCP.out.1) HCP.out.2)
                      rw [hsl] at hpt
                      have HPT := Lib.hid hpt
                      clear hpt hsl
                      go_wp2
                      go_roundw
                      case rel => exact ⟨k + 1, by omega, by go_num, by rw [HE.out]; exact HPT.out.up (Nat.le_of_eq (by simp)), (HBR.out.trans (HBW.out.mono (HWM.out ▸ HBR.out.size))).setCell (p := ⟨G, x.1, none⟩) (Nat.le_refl _) _⟩
                      case measure => simp [intOf]; omega
              · have hLL := HGL.out.head x.1
                obtain ⟨b, hb⟩ := hLL.resolve_left hL0
                have HST := Lib.hid (hok.step HGL.out hL0)
                have htl := HTL.out
                rw [hb] at htl
                obtain ⟨gl, ol, cl, rfl, hcl, _, _, _, _⟩ := htl.cons
                clear htl hnil hok hL0 hLL
                go_wp2_with fail
                have HT1 := Lib.hid (fun W (hb : Below w3.heap.size w3 W) => (HOWN.out.tl.keep (Nat.le_refl _) hb).up hb.size)
                have HT2 := Lib.hid (fun W (hb : Below w3.heap.size w3 W) => (HTL.out.keep (Nat.le_refl _) hb).up hb.size)
                have HSML := Lib.hid (show Sml (top C 16777216) x.2 (x :: r) (L x.1) from ⟨HSZ.out x (List.mem_cons_self ..), HSZ.out, HGL.out.size x.1⟩)
                have HL2 := Lib.hid (show (L x.1).length ≤ 72 from Nat.le_trans (ord_length (HGL.out.ord x.1)) (by omega))
                have HCALL := Lib.hid (fun W (hb : Below w3.heap.size w3 W) => c_minus _ _ (x :: r) (L x.1) s p n c t q m1 d x.2 (top C 16777216) W (HT1.out W hb) (HT2.out W hb) (HQX.out.keep hb) HSML.out (by have := HTOP.out; omega) (by have := HL2.out; have := HLEN.out; omega))
                rw [hb] at HCALL
                have hg3' := hg3
                clear HT1 HT2 HSML HL2
                have HS1 := Lib.hid (show ∀ w1, Below w3.heap.size w3 w1 → (w1.cell? ⟨g, 0, none⟩ = some (.int .i64 (x.1 : Int)) ∧ w1.cell? ⟨g, 1, none⟩ = some (.bool s) ∧ w1.cell? ⟨g, 2, none⟩ = some (.slice p n c) ∧ w1.cell? ⟨g, 3, none⟩ = some (.bool t) ∧ w1.cell? ⟨g, 4, none⟩ = some (.slice q m1 d) ∧ w1.cell? ⟨G, x.1, none⟩ = some (.slice (some ⟨gl, ol, none⟩) (b.length + 1) (cl + 1))) from fun w1 hb => ⟨(hb.cell (p := ⟨g, 0, none⟩) (hg3)).trans a0, (hb.cell (p := ⟨g, 1, none⟩) (hg3)).trans a1, (hb.cell (p := ⟨g, 2, none⟩) (hg3)).trans a2, (hb.cell (p := ⟨g, 3, none⟩) (hg3)).trans a3, (hb.cell (p := ⟨g, 4, none⟩) (hg3)).trans a4, (hb.cell (p := ⟨G, x.1, none⟩) (hG3)).trans l0⟩)
                have hbB : Below w3.heap.size w3 w3.drew := (Below.refl _ w3).drew
                have hsB : w3.heap.size ≤ w3.heap.size := Nat.le_refl _
                have hS0 : w3.drew.cell? ⟨g, 0, none⟩ = some (.int .i64 (x.1 : Int)) ∧ w3.drew.cell? ⟨g, 1, none⟩ = some (.bool s) ∧ w3.drew.cell? ⟨g, 2, none⟩ = some (.slice p n c) ∧ w3.drew.cell? ⟨g, 3, none⟩ = some (.bool t) ∧ w3.drew.cell? ⟨g, 4, none⟩ = some (.slice q m1 d) ∧ w3.drew.cell? ⟨G, x.1, none⟩ = some (.slice (some ⟨gl, ol, none⟩) (b.length + 1) (cl + 1)) := HS1.out _ hbB
                go_region_held3 (fun w1 => w1.cell? ⟨g, 0, none⟩ = some (.int .i64 (x.1 : Int)) ∧ w1.cell? ⟨g, 1, none⟩ = some (.bool s) ∧ w1.cell? ⟨g, 2, none⟩ = some (.slice p n c) ∧ w1.cell? ⟨g, 3, none⟩ = some (.bool t) ∧ w1.cell? ⟨g, 4, none⟩ = some (.slice q m1 d) ∧ w1.cell? ⟨G, x.1, none⟩ = some (.slice (some ⟨gl, ol, none⟩) (b.length + 1) (cl + 1)))
                  (first | with_reducible exact hS0 | with_reducible exact HS1.out _ hbB | exact HS1.out _ (hbB.alloc hsB _))
                  (first
                    | (go_at_call 101; refine (HCALL.out _ (by first | exact (Below.refl _ w3).drew | exact Below.refl _ w3)).mono ?_; rintro e w4 ⟨⟨v', rfl, hown'⟩, hb4⟩; have HB34 := Lib.hid (show Below w3.heap.size w3 w4 from (by first | exact (Below.refl _ w3).drew.trans hb4 | exact hb4)); have HOW4 := Lib.hid (hown'.base (B' := wi.heap.size) (Nat.le_trans HB3.out.size (Nat.le_succ _))); clear hown' hb4; have hbB := HB34.out; have hsB : w3.heap.size ≤ w4.heap.size := hbB.size))
                all_goals go_wp2
                all_goals go_roundw
                all_goals first
                  | exact ⟨m + 1, x.1 + 1, red L (x :: r), by have := HM.out.1; have := HOK.out.1.1; omega, by omega, by rw [redN, HRR.out], HST.out.1, by rw [HST.out.2.1, hb]; exact HOW4.out, HB3.out.trans (HB34.out.mono HB3.out.size)⟩
                  | (have h1 := msr_cons HOWN.out (C := C); have h2 := msr_step (C := C) (t := x.1) (r := red L (x :: r)) (by rw [HST.out.2.1, hb]; exact HOW4.out) HST.out.1.1 hxC; exact Nat.lt_of_lt_of_eq h2 h1.symm)
    · obtain rfl : k = R := by omega
      go_wp2
      go_ret
      exact ⟨⟨G, rfl, HGW.out, HTAB.out⟩, HB0.out.trans (HBR.out.mono HGW.out)⟩
end Go.Proofs.YthikonjlgljikaaGreatDoor
