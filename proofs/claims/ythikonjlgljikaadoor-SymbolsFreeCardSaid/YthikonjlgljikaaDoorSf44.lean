/- The law SymbolsFree, walked: it returns true. -/
import Derived.Test.YthikonjlgljikaaDoorSf43
namespace Go.Proofs.YthikonjlgljikaaDoor
open Go.RowKit Eli

theorem getD_of {F : List Nat} {i x : Nat} (h : F[i]? = some x) : F.getD i 0 = x := by rw [List.getD_eq_getElem?_getD, h]; rfl
theorem free_unit {n wt : Nat} {D : Int} (hw : wt ≤ 22) {x j : Nat} (hx : x ∈ frs (elF n wt D) (cntF n wt)) : crd (elF n wt D) (cntF n wt) (cntF n wt) x j = if j = x then 1 else 0 := by
  obtain ⟨h1, h2⟩ := frs_mem.1 hx
  exact crd_free (elF_good hw) (by omega) (Nat.le_refl _) h1 h2 j
theorem frs_lt {L : Nat → List (Nat × Rat)} {C i j x y : Nat} (hi : (frs L C)[i]? = some x) (hj : (frs L C)[j]? = some y) (h : i < j) : x < y := by
  have hp := List.pairwise_iff_getElem.1 (frs_pairwise L C)
  obtain ⟨h1, e1⟩ := List.getElem?_eq_some_iff.1 hi
  obtain ⟨h2, e2⟩ := List.getElem?_eq_some_iff.1 hj
  have := hp i j h1 h2 h
  omega
theorem frs_inj {L : Nat → List (Nat × Rat)} {C i j x : Nat} (hi : (frs L C)[i]? = some x) (hj : (frs L C)[j]? = some x) : i = j := by
  rcases Nat.lt_trichotomy i j with h | h | h
  · have := frs_lt hi hj h; omega
  · exact h
  · have := frs_lt hj hi h; omega
set_option maxHeartbeats 4000000 in
set_option maxRecDepth 100000 in
theorem c_lawFree_bad (N k D : Int) (w : World) (hT : Tab w) (hck : Pl.check N k D ≠ 0) :
    Calls Tryd.prog 5 #[.agg #[.int .i64 N, .int .i64 k, .int .i64 D]] w fun e w' => e = .returned (.bool true) ∧ Below w.heap.size w w' := by
  have HLA := Lib.hid (fun W => c_Large_bad N k D W hck)
  have HNE := Lib.hid (fun W => c_New_check N k D W hck)
  obtain ⟨er, her⟩ : ∃ er, Pl.check N k D = er := ⟨_, rfl⟩
  rw [her] at hck HNE
  have hne : (er != 0) = true := by simpa using hck
  have HT := Lib.hid hT
  clear her hck hT
  go_enter Tryd.func5, Tryd.ntmps5
  go_wp2_with fail
  obtain ⟨w0, hw0⟩ : ∃ w0, w.alloc (.cells #[.int .i64 N, .int .i64 k, .int .i64 D] 23) = w0 := ⟨_, rfl⟩
  rw [hw0]
  obtain ⟨X0, hb0⟩ := box1 w #[.int .i64 N, .int .i64 k, .int .i64 D] 23
  rw [hw0] at X0 hb0
  refine (c_awake w0 (HT.out.below hb0)).mono ?_
  rintro e w1 ⟨rfl, hb1⟩
  have X1 := X0.below_ hb1 X0.lt
  have HB1 := Lib.hid (hb0.trans (hb1.mono hb0.size))
  have x0 := X1.at_ 0 rfl
  have x1 := X1.at_ 1 rfl
  have x2 := X1.at_ 2 rfl
  have HX1 := Lib.hid X1
  clear hw0 X0 hb0 hb1 X1
  go_wp2_with fail
  refine (HLA.out w1).mono ?_
  rintro e w2 ⟨rfl, hb2⟩
  have X2 := HX1.out.below_ hb2 HX1.out.lt
  have HB2 := Lib.hid (HB1.out.trans (hb2.mono HB1.out.size))
  clear x0 x1 x2 hb2
  have x0 := X2.at_ 0 rfl
  have x1 := X2.at_ 1 rfl
  have x2 := X2.at_ 2 rfl
  clear X2 HX1
  go_wp2_with fail
  refine (HNE.out w2).mono ?_
  rintro e w3 ⟨rfl, hb3⟩
  have HB3 := Lib.hid (HB2.out.trans (hb3.mono HB2.out.size))
  clear x0 x1 x2 hb3
  go_wp2
  go_ret
  exact ⟨rfl, HB3.out⟩
set_option maxHeartbeats 4000000 in
set_option maxRecDepth 100000 in
theorem c_lawFree_ok (n wt : Nat) (D : Int) (w : World) (hT : Tab w) (hck : Pl.check n ((wt : Int) + 2) D = 0) :
    Calls Tryd.prog 5 #[.agg #[.int .i64 n, .int .i64 ((wt : Int) + 2), .int .i64 D]] w fun e w' => e = .returned (.bool true) ∧ Below w.heap.size w w' := by
  obtain ⟨h1, h2, h3, h4, h5, h6⟩ := check_zero hck
  have HLA := Lib.hid (fun W => c_Large n wt D W hck)
  have HNW := Lib.hid (fun W (hb : Below w.heap.size w W) (hC : cntF n wt ≤ 72) => c_New n wt D W (hT.below hb) hck hC)
  have HU := Lib.hid (fun x j => free_unit (n := n) (wt := wt) (D := D) (x := x) (j := j) (by omega))
  have HCS := Lib.hid (fun (hC : cntF n wt ≤ 72) j f => coord_size (n := n) (wt := wt) (D := D) (by omega) hC (j := j) (f := f))
  obtain ⟨C, hC⟩ : ∃ C, cntF n wt = C := ⟨_, rfl⟩
  have hC2 : (wt + 1) * (pts n (n * n)).length = C := hC
  rw [hC2] at HLA
  rw [hC] at HNW HU HCS
  obtain ⟨L, hL⟩ : ∃ L, elF n wt D = L := ⟨_, rfl⟩
  rw [hL] at HNW HU HCS
  have HT := Lib.hid hT
  clear hT hck h1 h2 h3 h4 h5 h6 hC hC2 hL
  go_enter Tryd.func5, Tryd.ntmps5
  go_wp2_with fail
  obtain ⟨w0, hw0⟩ : ∃ w0, w.alloc (.cells #[.int .i64 n, .int .i64 ((wt : Int) + 2), .int .i64 D] 23) = w0 := ⟨_, rfl⟩
  rw [hw0]
  obtain ⟨X0, hb0⟩ := box1 w #[.int .i64 n, .int .i64 ((wt : Int) + 2), .int .i64 D] 23
  rw [hw0] at X0 hb0
  refine (c_awake w0 (HT.out.below hb0)).mono ?_
  rintro e w1 ⟨rfl, hb1⟩
  have X1 := X0.below_ hb1 X0.lt
  have HB1 := Lib.hid (hb0.trans (hb1.mono hb0.size))
  have x0 := X1.at_ 0 rfl
  have x1 := X1.at_ 1 rfl
  have x2 := X1.at_ 2 rfl
  have HX1 := Lib.hid X1
  clear hw0 X0 hb0 hb1 X1
  go_wp2_with fail
  refine (HLA.out w1).mono ?_
  rintro e w2 ⟨rfl, hb2⟩
  have X2 := HX1.out.below_ hb2 HX1.out.lt
  have HB2 := Lib.hid (HB1.out.trans (hb2.mono HB1.out.size))
  clear x0 x1 x2 hb2
  have x0 := X2.at_ 0 rfl
  have x1 := X2.at_ 1 rfl
  have x2 := X2.at_ 2 rfl
  clear X2 HX1
  by_cases hbig : 72 < C
  · have hd : decide (72 < C) = true := decide_eq_true hbig
    rw [hd]
    go_wp2
    go_ret
    exact ⟨rfl, HB2.out⟩
  have hd : decide (72 < C) = false := decide_eq_false hbig
  rw [hd]
  clear hd
  go_wp2_with fail
  refine (HNW.out w2 HB2.out (by omega)).mono ?_
  rintro e w3 ⟨⟨M, rfl, hM, hmod⟩, hb3⟩
  obtain ⟨F, hF⟩ : ∃ F, frs L C = F := ⟨_, rfl⟩
  have HLT := Lib.hid (show ∀ i j x y, F[i]? = some x → F[j]? = some y → i < j → x < y from fun i j x y h1 h2 h3 => by rw [← hF] at h1 h2; exact frs_lt h1 h2 h3)
  have HIN := Lib.hid (show ∀ i j x, F[i]? = some x → F[j]? = some x → i = j from fun i j x h1 h2 => by rw [← hF] at h1 h2; exact frs_inj h1 h2)
  have HFL := Lib.hid (show F.length ≤ 72 from Nat.le_trans (hF ▸ frs_length L C) (by omega))
  have HME := Lib.hid (show ∀ x, x ∈ F → x < C from fun x h => by rw [← hF] at h; exact (frs_mem.1 h).1)
  rw [hF] at hmod HU HCS
  obtain ⟨X, hX⟩ : ∃ X, crd L C C = X := ⟨_, rfl⟩
  rw [hX] at hmod HU HCS
  have HM3 := Lib.hid hmod
  have HB3 := Lib.hid (HB2.out.trans (hb3.mono HB2.out.size))
  have HCS := Lib.hid (HCS.out (by omega))
  clear x0 x1 x2 hM hmod hb3 hF hX HNW HLA HT
  go_wp2_with fail
  refine (c_Free M w3.heap.size n ((wt : Int) + 2) D F C X w3 HM3.out (by have := HFL.out; omega)).mono ?_
  rintro e w4 ⟨⟨v, rfl, hown⟩, hb4⟩
  have HM4 := Lib.hid (HM3.out.keep (Nat.le_refl _) hb4)
  have HB4 := Lib.hid (HB3.out.trans (hb4.mono HB3.out.size))
  have HS4 := Lib.hid hb4.size
  obtain ⟨pl, cl, rfl⟩ := own_slice hown.1
  have HNL := Lib.hid hown.nl
  clear hown hb4
  go_wp2_with fail
  go_loopw [6] (fun ii wr => ∃ i : Nat, i ≤ F.length ∧ ii = .int .i64 i ∧ Below w4.heap.size w4 wr) (fun ii _ => F.length - (intOf ii).toNat)
  case atStart => exact ⟨0, Nat.zero_le _, rfl, Below.refl _ _⟩
  case round =>
    obtain ⟨i, hi, rfl, hb5⟩ := hrel
    obtain ⟨w5, rfl⟩ : ∃ w5 : World, w5 = wr := ⟨_, rfl⟩
    have HB5 := Lib.hid hb5
    clear hb5
    by_cases hlt : i < F.length
    · have hii : (i : Int) < (F.length : Int) := by omega
      obtain ⟨x, hx⟩ : ∃ x, F[i]? = some x := ⟨_, List.getElem?_eq_getElem hlt⟩
      have hxF := List.mem_of_getElem? hx
      rcases HNL.out with ⟨h0, _⟩ | ⟨gl, cap', e, _, _, hgl, hcl⟩
      · rw [h0] at hlt; simp at hlt
      cases e
      have HCL := Lib.hid (show ∀ W, Below w4.heap.size w4 W → ∀ (j x : Nat), F[j]? = some x → W.cell? ⟨gl, j, none⟩ = some (.int .i64 (x : Int)) from fun W hb j x hj => (hb.cell (p := ⟨gl, j, none⟩) hgl).trans (hcl j x hj))
      have l0 := HCL.out w5 HB5.out i x hx
      have HXI := Lib.hid hx
      have HXF := Lib.hid hxF
      clear hgl hcl hx hxF
      go_wp2_with fail
      refine (c_Reduce M w3.heap.size n ((wt : Int) + 2) D F C X x w5 (HM4.out.keep HS4.out HB5.out) (HME.out x HXF.out) (by have := HFL.out; omega) (fun f hf => Nat.le_trans (HCS.out x f (HME.out x HXF.out) hf) (by omega))).mono ?_
      rintro e w6 ⟨⟨g, rfl, hg, hrow⟩, hb6⟩
      have HROW := Lib.hid hrow
      have HB6 := Lib.hid (HB5.out.trans (hb6.mono HB5.out.size))
      have l0 := HCL.out w6 HB6.out i x HXI.out
      clear hg hrow hb6
      rcases Nat.eq_zero_or_pos i with rfl | hip
      · go_wp2_with fail
        go_quiet (fail)
        generalize hw7 : w6.drewN nq = w7
        have hb7 : Below w6.heap.size w6 w7 := hw7 ▸ below_drewN' (Below.refl _ _) nq
        have HB7 := Lib.hid (HB6.out.trans (hb7.mono HB6.out.size))
        have HROW7 := Lib.hid (QRow.keep (fun _ => IsQ.solid _) HROW.out hb7)
        clear hw7 hb7 l0
        go_wp2_with fail
        go_loopw [9] (fun jj wr => ∃ j : Nat, j ≤ F.length ∧ jj = .int .i64 j ∧ Below w4.heap.size w4 wr ∧ Below w7.heap.size w7 wr) (fun jj _ => F.length - (intOf jj).toNat)
        case atStart => exact ⟨0, Nat.zero_le _, rfl, HB7.out, Below.refl _ _⟩
        case round =>
          obtain ⟨j, hj, rfl, hbe, hbf⟩ := hrel
          obtain ⟨we, rfl⟩ : ∃ we : World, we = wr := ⟨_, rfl⟩
          have HBE := Lib.hid hbe
          have HBF := Lib.hid hbf
          clear hbe hbf
          by_cases hjl : j < F.length
          · have hjli : (j : Int) < (F.length : Int) := by omega
            have hj0 : (0 : Int) ≤ (j : Int) := by omega
            obtain ⟨y, hy⟩ : ∃ y, F[j]? = some y := ⟨_, List.getElem?_eq_getElem hjl⟩
            have HQE0 := Lib.hid (show QE (IsQ (X x y)) we g (j * 4) from (getD_of hy) ▸ (HROW7.out.val j hjl).keep (IsQ.solid _) HBF.out)
            have HY := Lib.hid hy
            clear hy
            by_cases hji : j = 0
            · have hyx : y = x := by
                have h1 := HY.out
                rw [hji, HXI.out] at h1
                injection h1 with h1
                exact h1.symm
              have hji2 : ((j : Int) == ((0 : Nat) : Int)) = true := by rw [hji]; simp
              obtain rfl : 0 = j := hji.symm
              obtain ⟨s, p, n5, c5, t, q, m5, d5, a0, a1, a2, a3, hxq⟩ := HQE0.out
              have HQE := Lib.hid (show Qs we s p n5 c5 t q m5 d5 ((1 : Int) : Rat) by
                have h : IsQ (X x y) we s p n5 c5 t q m5 d5 := hxq
                rw [HU.out x y HXF.out, if_pos hyx, show (1 : Rat) = ((1 : Int) : Rat) from rfl] at h
                exact h)
              clear hxq
              simp only [Nat.zero_mul, Nat.zero_add] at a0 a1 a2 a3
              go_wp2_with fail
              have HS1 := Lib.hid (show ∀ W, Below we.heap.size we W → (W.cell? ⟨g, 0, none⟩ = some (.bool s) ∧ W.cell? ⟨g, 1, none⟩ = some (.slice p n5 c5) ∧ W.cell? ⟨g, 2, none⟩ = some (.bool t) ∧ W.cell? ⟨g, 3, none⟩ = some (.slice q m5 d5)) from fun W hb => ⟨cell_next hb a0, cell_next hb a1, cell_next hb a2, cell_next hb a3⟩)
              have hS0 := HS1.out _ (Below.refl _ we).drew
              have HK1 := Lib.hid (show ∀ wb, Below we.drew.heap.size we.drew wb → Below we.heap.size we wb from fun wb hb => (Below.refl _ we).drew.trans hb)
              have HK2 := Lib.hid (show ∀ wa wb, Below we.heap.size we wa → Below wa.heap.size wa wb → Below we.heap.size we wb from fun wa wb h1 h2 => h1.trans (h2.mono h1.size))
              have HQ1 := Lib.hid (fun W => c_Q 1 W (by omega) (by omega))
              have HSR := Lib.hid (fun W s2 p2 n2 c2 t2 q2 m2 d2 (hb : Below we.heap.size we W) (hq : Qs W s2 p2 n2 c2 t2 q2 m2 d2 ((1 : Int) : Rat)) => c_SameRat s p n5 c5 t q m5 d5 ((1 : Int) : Rat) s2 p2 n2 c2 t2 q2 m2 d2 ((1 : Int) : Rat) W (HQE.out.keep hb) hq (by decide))
              simp only [decide_true] at HSR
              clear a0 a1 a2 a3
              go_upto_region 21 with (fail)
              go_region_held3 (fun W => W.cell? ⟨g, 0, none⟩ = some (.bool s) ∧ W.cell? ⟨g, 1, none⟩ = some (.slice p n5 c5) ∧ W.cell? ⟨g, 2, none⟩ = some (.bool t) ∧ W.cell? ⟨g, 3, none⟩ = some (.slice q m5 d5))
                (first | with_reducible exact hS0 | with_reducible exact HS1.out _ HBA.out | (exfalso; assumption))
                (first
                  | (go_at_call 20; (with_reducible refine (HQ1.out _).mono ?_); rintro e w7 ⟨⟨s2, p2, n2, c2, t2, q2, m2, d2, rfl, hq2⟩, hb7⟩; have HBA := Lib.hid (show Below we.heap.size we w7 from by first | exact HK2.out _ _ HBA.out hb7 | exact HK1.out _ hb7))
                  | (go_at_call 19; (with_reducible refine (HSR.out _ _ _ _ _ _ _ _ _ HBA.out hq2).mono ?_); rintro e w8 ⟨rfl, hb8⟩; have HBA := Lib.hid (HK2.out _ _ HBA.out hb8)))
              all_goals go_wp2
              all_goals go_roundw
              all_goals first
                | exact ⟨0 + 1, by omega, by go_num, HBE.out.trans (HBA.out.mono HBE.out.size), HBF.out.trans (HBA.out.mono HBF.out.size)⟩
                | (simp [intOf]; omega)
            · have hyx : ¬ y = x := fun e => hji (HIN.out j 0 x (e ▸ HY.out) HXI.out)
              have hji2 : ((j : Int) == ((0 : Nat) : Int)) = false := beq_eq_false_iff_ne.2 (by omega)
              obtain ⟨s, p, n5, c5, t, q, m5, d5, a0, a1, a2, a3, hxq⟩ := HQE0.out
              have HQE := Lib.hid (show Qs we s p n5 c5 t q m5 d5 ((0 : Int) : Rat) by
                have h : IsQ (X x y) we s p n5 c5 t q m5 d5 := hxq
                rw [HU.out x y HXF.out, if_neg hyx, show (0 : Rat) = ((0 : Int) : Rat) from rfl] at h
                exact h)
              clear hxq
              go_wp2_with fail
              have HS1 := Lib.hid (show ∀ W, Below we.heap.size we W → (W.cell? ⟨g, j * 4, none⟩ = some (.bool s) ∧ W.cell? ⟨g, j * 4 + 1, none⟩ = some (.slice p n5 c5) ∧ W.cell? ⟨g, j * 4 + 2, none⟩ = some (.bool t) ∧ W.cell? ⟨g, j * 4 + 3, none⟩ = some (.slice q m5 d5)) from fun W hb => ⟨cell_next hb a0, cell_next hb a1, cell_next hb a2, cell_next hb a3⟩)
              have hS0 := HS1.out _ (Below.refl _ we).drew
              have HK1 := Lib.hid (show ∀ wb, Below we.drew.heap.size we.drew wb → Below we.heap.size we wb from fun wb hb => (Below.refl _ we).drew.trans hb)
              have HK2 := Lib.hid (show ∀ wa wb, Below we.heap.size we wa → Below wa.heap.size wa wb → Below we.heap.size we wb from fun wa wb h1 h2 => h1.trans (h2.mono h1.size))
              have HQ1 := Lib.hid (fun W => c_Q 0 W (by omega) (by omega))
              have HSR := Lib.hid (fun W s2 p2 n2 c2 t2 q2 m2 d2 (hb : Below we.heap.size we W) (hq : Qs W s2 p2 n2 c2 t2 q2 m2 d2 ((0 : Int) : Rat)) => c_SameRat s p n5 c5 t q m5 d5 ((0 : Int) : Rat) s2 p2 n2 c2 t2 q2 m2 d2 ((0 : Int) : Rat) W (HQE.out.keep hb) hq (by decide))
              simp only [decide_true] at HSR
              clear a0 a1 a2 a3
              go_upto_region 21 with (fail)
              go_region_held3 (fun W => W.cell? ⟨g, j * 4, none⟩ = some (.bool s) ∧ W.cell? ⟨g, j * 4 + 1, none⟩ = some (.slice p n5 c5) ∧ W.cell? ⟨g, j * 4 + 2, none⟩ = some (.bool t) ∧ W.cell? ⟨g, j * 4 + 3, none⟩ = some (.slice q m5 d5))
                (first | with_reducible exact hS0 | with_reducible exact HS1.out _ HBA.out | (exfalso; assumption))
                (first
                  | (go_at_call 20; (with_reducible refine (HQ1.out _).mono ?_); rintro e w7 ⟨⟨s2, p2, n2, c2, t2, q2, m2, d2, rfl, hq2⟩, hb7⟩; have HBA := Lib.hid (show Below we.heap.size we w7 from by first | exact HK2.out _ _ HBA.out hb7 | exact HK1.out _ hb7))
                  | (go_at_call 19; (with_reducible refine (HSR.out _ _ _ _ _ _ _ _ _ HBA.out hq2).mono ?_); rintro e w8 ⟨rfl, hb8⟩; have HBA := Lib.hid (HK2.out _ _ HBA.out hb8)))
              all_goals go_wp2
              all_goals go_roundw
              all_goals first
                | exact ⟨j + 1, by omega, by go_num, HBE.out.trans (HBA.out.mono HBE.out.size), HBF.out.trans (HBA.out.mono HBF.out.size)⟩
                | (simp [intOf]; omega)
          · obtain rfl : F.length = j := by omega
            go_wp2
            go_roundw
            case rel => exact ⟨0 + 1, by omega, by go_num, HBE.out⟩
            case measure => simp [intOf]; omega
      · obtain ⟨i1, hi1⟩ : ∃ i1, i - 1 = i1 := ⟨_, rfl⟩
        obtain ⟨x', hx'⟩ : ∃ x', F[i1]? = some x' := ⟨_, List.getElem?_eq_getElem (by omega)⟩
        have l1 := HCL.out w6 HB6.out i1 x' hx'
        have hxx := HLT.out i1 i x' x hx' HXI.out (by omega)
        have hpos : (0 : Int) < (i : Int) := by omega
        have hsub : (i : Int) - 1 = (i1 : Nat) := by omega
        have v1 : IntKind.i64.wrap (i1 : Int) = (i1 : Nat) := IntWalk.i64_in _ (by have := HFL.out; omega)
        have hi0 : (0 : Int) ≤ (i1 : Int) := by omega
        have hi2 : (i1 : Int) < (F.length : Int) := by omega
        have hge : ¬ ((x : Int) ≤ (x' : Int)) := by omega
        have hd : decide (0 < i) = true := decide_eq_true hip
        have hd3 : decide (x ≤ x') = false := decide_eq_false (by omega)
        clear hx' hi1
        go_wp2_with fail
        go_quiet (fail)
        generalize hw7 : w6.drewN nq = w7
        have hb7 : Below w6.heap.size w6 w7 := hw7 ▸ below_drewN' (Below.refl _ _) nq
        have HB7 := Lib.hid (HB6.out.trans (hb7.mono HB6.out.size))
        have HROW7 := Lib.hid (QRow.keep (fun _ => IsQ.solid _) HROW.out hb7)
        clear hw7 hb7 l0 l1
        go_wp2_with fail
        clear hpos hsub v1 hi0 hi2 hge hxx hd hip hd3
        go_loopw [9] (fun jj wr => ∃ j : Nat, j ≤ F.length ∧ jj = .int .i64 j ∧ Below w4.heap.size w4 wr ∧ Below w7.heap.size w7 wr) (fun jj _ => F.length - (intOf jj).toNat)
        case atStart => exact ⟨0, Nat.zero_le _, rfl, HB7.out, Below.refl _ _⟩
        case round =>
          obtain ⟨j, hj, rfl, hbe, hbf⟩ := hrel
          obtain ⟨we, rfl⟩ : ∃ we : World, we = wr := ⟨_, rfl⟩
          have HBE := Lib.hid hbe
          have HBF := Lib.hid hbf
          clear hbe hbf
          by_cases hjl : j < F.length
          · have hjli : (j : Int) < (F.length : Int) := by omega
            have hj0 : (0 : Int) ≤ (j : Int) := by omega
            obtain ⟨y, hy⟩ : ∃ y, F[j]? = some y := ⟨_, List.getElem?_eq_getElem hjl⟩
            have HQE0 := Lib.hid (show QE (IsQ (X x y)) we g (j * 4) from (getD_of hy) ▸ (HROW7.out.val j hjl).keep (IsQ.solid _) HBF.out)
            have HY := Lib.hid hy
            clear hy
            by_cases hji : j = i
            · have hyx : y = x := by
                have h1 := HY.out
                rw [hji, HXI.out] at h1
                injection h1 with h1
                exact h1.symm
              have hji2 : ((j : Int) == ((i : Nat) : Int)) = true := by rw [hji]; simp
              obtain rfl : i = j := hji.symm
              obtain ⟨s, p, n5, c5, t, q, m5, d5, a0, a1, a2, a3, hxq⟩ := HQE0.out
              have HQE := Lib.hid (show Qs we s p n5 c5 t q m5 d5 ((1 : Int) : Rat) by
                have h : IsQ (X x y) we s p n5 c5 t q m5 d5 := hxq
                rw [HU.out x y HXF.out, if_pos hyx, show (1 : Rat) = ((1 : Int) : Rat) from rfl] at h
                exact h)
              clear hxq
              go_wp2_with fail
              have HS1 := Lib.hid (show ∀ W, Below we.heap.size we W → (W.cell? ⟨g, i * 4, none⟩ = some (.bool s) ∧ W.cell? ⟨g, i * 4 + 1, none⟩ = some (.slice p n5 c5) ∧ W.cell? ⟨g, i * 4 + 2, none⟩ = some (.bool t) ∧ W.cell? ⟨g, i * 4 + 3, none⟩ = some (.slice q m5 d5)) from fun W hb => ⟨cell_next hb a0, cell_next hb a1, cell_next hb a2, cell_next hb a3⟩)
              have hS0 := HS1.out _ (Below.refl _ we).drew
              have HK1 := Lib.hid (show ∀ wb, Below we.drew.heap.size we.drew wb → Below we.heap.size we wb from fun wb hb => (Below.refl _ we).drew.trans hb)
              have HK2 := Lib.hid (show ∀ wa wb, Below we.heap.size we wa → Below wa.heap.size wa wb → Below we.heap.size we wb from fun wa wb h1 h2 => h1.trans (h2.mono h1.size))
              have HQ1 := Lib.hid (fun W => c_Q 1 W (by omega) (by omega))
              have HSR := Lib.hid (fun W s2 p2 n2 c2 t2 q2 m2 d2 (hb : Below we.heap.size we W) (hq : Qs W s2 p2 n2 c2 t2 q2 m2 d2 ((1 : Int) : Rat)) => c_SameRat s p n5 c5 t q m5 d5 ((1 : Int) : Rat) s2 p2 n2 c2 t2 q2 m2 d2 ((1 : Int) : Rat) W (HQE.out.keep hb) hq (by decide))
              simp only [decide_true] at HSR
              clear a0 a1 a2 a3
              go_upto_region 21 with (fail)
              go_region_held3 (fun W => W.cell? ⟨g, i * 4, none⟩ = some (.bool s) ∧ W.cell? ⟨g, i * 4 + 1, none⟩ = some (.slice p n5 c5) ∧ W.cell? ⟨g, i * 4 + 2, none⟩ = some (.bool t) ∧ W.cell? ⟨g, i * 4 + 3, none⟩ = some (.slice q m5 d5))
                (first | with_reducible exact hS0 | with_reducible exact HS1.out _ HBA.out | (exfalso; assumption))
                (first
                  | (go_at_call 20; (with_reducible refine (HQ1.out _).mono ?_); rintro e w7 ⟨⟨s2, p2, n2, c2, t2, q2, m2, d2, rfl, hq2⟩, hb7⟩; have HBA := Lib.hid (show Below we.heap.size we w7 from by first | exact HK2.out _ _ HBA.out hb7 | exact HK1.out _ hb7))
                  | (go_at_call 19; (with_reducible refine (HSR.out _ _ _ _ _ _ _ _ _ HBA.out hq2).mono ?_); rintro e w8 ⟨rfl, hb8⟩; have HBA := Lib.hid (HK2.out _ _ HBA.out hb8)))
              all_goals go_wp2
              all_goals go_roundw
              all_goals first
                | exact ⟨i + 1, by omega, by go_num, HBE.out.trans (HBA.out.mono HBE.out.size), HBF.out.trans (HBA.out.mono HBF.out.size)⟩
                | (simp [intOf]; omega)
            · have hyx : ¬ y = x := fun e => hji (HIN.out j i x (e ▸ HY.out) HXI.out)
              have hji2 : ((j : Int) == ((i : Nat) : Int)) = false := beq_eq_false_iff_ne.2 (by omega)
              obtain ⟨s, p, n5, c5, t, q, m5, d5, a0, a1, a2, a3, hxq⟩ := HQE0.out
              have HQE := Lib.hid (show Qs we s p n5 c5 t q m5 d5 ((0 : Int) : Rat) by
                have h : IsQ (X x y) we s p n5 c5 t q m5 d5 := hxq
                rw [HU.out x y HXF.out, if_neg hyx, show (0 : Rat) = ((0 : Int) : Rat) from rfl] at h
                exact h)
              clear hxq
              go_wp2_with fail
              have HS1 := Lib.hid (show ∀ W, Below we.heap.size we W → (W.cell? ⟨g, j * 4, none⟩ = some (.bool s) ∧ W.cell? ⟨g, j * 4 + 1, none⟩ = some (.slice p n5 c5) ∧ W.cell? ⟨g, j * 4 + 2, none⟩ = some (.bool t) ∧ W.cell? ⟨g, j * 4 + 3, none⟩ = some (.slice q m5 d5)) from fun W hb => ⟨cell_next hb a0, cell_next hb a1, cell_next hb a2, cell_next hb a3⟩)
              have hS0 := HS1.out _ (Below.refl _ we).drew
              have HK1 := Lib.hid (show ∀ wb, Below we.drew.heap.size we.drew wb → Below we.heap.size we wb from fun wb hb => (Below.refl _ we).drew.trans hb)
              have HK2 := Lib.hid (show ∀ wa wb, Below we.heap.size we wa → Below wa.heap.size wa wb → Below we.heap.size we wb from fun wa wb h1 h2 => h1.trans (h2.mono h1.size))
              have HQ1 := Lib.hid (fun W => c_Q 0 W (by omega) (by omega))
              have HSR := Lib.hid (fun W s2 p2 n2 c2 t2 q2 m2 d2 (hb : Below we.heap.size we W) (hq : Qs W s2 p2 n2 c2 t2 q2 m2 d2 ((0 : Int) : Rat)) => c_SameRat s p n5 c5 t q m5 d5 ((0 : Int) : Rat) s2 p2 n2 c2 t2 q2 m2 d2 ((0 : Int) : Rat) W (HQE.out.keep hb) hq (by decide))
              simp only [decide_true] at HSR
              clear a0 a1 a2 a3
              go_upto_region 21 with (fail)
              go_region_held3 (fun W => W.cell? ⟨g, j * 4, none⟩ = some (.bool s) ∧ W.cell? ⟨g, j * 4 + 1, none⟩ = some (.slice p n5 c5) ∧ W.cell? ⟨g, j * 4 + 2, none⟩ = some (.bool t) ∧ W.cell? ⟨g, j * 4 + 3, none⟩ = some (.slice q m5 d5))
                (first | with_reducible exact hS0 | with_reducible exact HS1.out _ HBA.out | (exfalso; assumption))
                (first
                  | (go_at_call 20; (with_reducible refine (HQ1.out _).mono ?_); rintro e w7 ⟨⟨s2, p2, n2, c2, t2, q2, m2, d2, rfl, hq2⟩, hb7⟩; have HBA := Lib.hid (show Below we.heap.size we w7 from by first | exact HK2.out _ _ HBA.out hb7 | exact HK1.out _ hb7))
                  | (go_at_call 19; (with_reducible refine (HSR.out _ _ _ _ _ _ _ _ _ HBA.out hq2).mono ?_); rintro e w8 ⟨rfl, hb8⟩; have HBA := Lib.hid (HK2.out _ _ HBA.out hb8)))
              all_goals go_wp2
              all_goals go_roundw
              all_goals first
                | exact ⟨j + 1, by omega, by go_num, HBE.out.trans (HBA.out.mono HBE.out.size), HBF.out.trans (HBA.out.mono HBF.out.size)⟩
                | (simp [intOf]; omega)
          · obtain rfl : F.length = j := by omega
            go_wp2
            go_roundw
            case rel => exact ⟨i + 1, by omega, by go_num, HBE.out⟩
            case measure => simp [intOf]; omega
    · obtain rfl : F.length = i := by omega
      go_wp2
      go_ret
      exact ⟨rfl, HB4.out.trans (HB5.out.mono HB4.out.size)⟩
theorem c_lawFree (N k D : Int) (w : World) (hT : Tab w) :
    Calls Tryd.prog 5 #[.agg #[.int .i64 N, .int .i64 k, .int .i64 D]] w fun e w' => e = .returned (.bool true) ∧ Below w.heap.size w w' := by
  by_cases hck : Pl.check N k D = 0
  · obtain ⟨h1, h2, h3, h4, _, _⟩ := check_zero hck
    obtain ⟨n, rfl⟩ : ∃ n : Nat, N = n := ⟨N.toNat, by omega⟩
    obtain ⟨wt, rfl⟩ : ∃ wt : Nat, k = (wt : Int) + 2 := ⟨(k - 2).toNat, by omega⟩
    exact c_lawFree_ok n wt D w hT hck
  · exact c_lawFree_bad N k D w hT hck
end Go.Proofs.YthikonjlgljikaaDoor
