/- Contract of manin.times. -/
import Derived.Test.YthikonjlgljikaaGreatDoorLs28
import Derived.Test.YthikonjlgljikaaGreatDoorLs35
namespace Go.Proofs.YthikonjlgljikaaGreatDoor
set_option linter.unusedSimpArgs false
open Go.RowKit

theorem intZInfo : (Tryz.prog.info? 33).map (fun i => (i.zero, i.size, i.bytes)) = some (some (.agg #[.bool false, .slice none 0 0]), 2, 32) := by kernel_rfl
theorem makeZ (n : Nat) (h : n ≤ 1000000) (w : World) :
    (Instr.makeSlice 74 (.int .i64 (n : Int)) (.int .i64 (n : Int))).run Tryz.prog w = .ok (.slice (some ⟨w.heap.size, 0, none⟩) n n) (w.alloc (.cells (madeCells #[.bool false, .slice none 0 0] (n * 2)) 33)) := by
  obtain ⟨i, hi, hz0, hz1, hz2⟩ := info_parts intZInfo
  have hr := run_make (P := Tryz.prog) w 74 33 i _ Tryz.underlying74 hi hz0 .i64 .i64 n n (by omega) (Int.le_refl _) (by rw [hz2]; omega) (by omega)
  rw [Int.toNat_natCast, hz1] at hr
  exact hr
theorem madeZ {n i : Nat} {v : Value} (h : (madeCells #[.bool false, .slice none 0 0] n)[i]? = some v) : NotInt v := by
  unfold madeCells at h
  simp only [Array.getElem?_map, Array.getElem?_range] at h
  split at h
  · simp only [Option.map_some] at h
    injection h with h
    rw [← h]
    have h3 : i % 2 = 0 ∨ i % 2 = 1 := by omega
    show NotInt ((#[.bool false, .slice none 0 0] : Array Value)[i % 2]!)
    rcases h3 with h3 | h3 <;> rw [h3] <;> first | exact NotInt.bool _ | exact NotInt.slice _ _ _
  · cases h
theorem ZRow.made (f : Nat → Int) (w : World) (n : Nat) : ZRow f (w.alloc (.cells (madeCells #[.bool false, .slice none 0 0] (n * 2)) 33)) w.heap.size n 0 := by
  have hb := Blk.new w 33 (madeCells #[.bool false, .slice none 0 0] (n * 2))
  refine ⟨Sts.of hb ?_, fun i _ => hb.free_ i, fun i hi => ?_, fun j hj => absurd hj (Nat.not_lt_zero _)⟩
  · intro v hv
    obtain ⟨i, hi⟩ := Array.getElem?_of_mem hv
    exact madeZ hi
  · rw [hb.cell_ i, Array.getElem?_eq_getElem (by rw [size_madeCells]; exact hi)]; rfl
/-- A variable that holds an integer. -/
def VarZ (w : World) (R : Nat) (z : Int) : Prop := ∃ s p n c, Blk w R 33 #[.bool s, .slice p n c] ∧ Zs w s p n c z
theorem below_put2 {g : Nat} {w w' : World} (h : Below g w w') {R i j : Nat} (hR : g ≤ R) {v0 v1 : Value} : Below g w ((w'.setCell ⟨R, i, none⟩ v0).setCell ⟨R, j, none⟩ v1) :=
  (h.setCell (p := ⟨R, i, none⟩) hR v0).setCell (p := ⟨R, j, none⟩) hR v1
theorem ZRow.var {f : Nat → Int} {w : World} {g N k R : Nat} {s : Bool} {p : Option Addr} {n c : Nat} {s' : Bool} {p' : Option Addr} {n' c' : Nat} (h : ZRow f w g N k) (hR : Blk w R 33 #[.bool s', .slice p' n' c']) (hne : g ≠ R) : ZRow f ((w.setCell ⟨R, 0, none⟩ (.bool s)).setCell ⟨R, 1, none⟩ (.slice p n c)) g N k := by
  have hg := but_put2 w R 0 1 (.bool s) (.slice p n c)
  have hb : ((w.setCell ⟨R, 0, none⟩ (.bool s)).setCell ⟨R, 1, none⟩ (.slice p n c)).heap[g]? = w.heap[g]? := hg.block g h.sts.1 (fun e => by injection e with e; exact hne e)
  have h32 := I32.put2 (Sts.box hR) 0 1 (.bool s) (.slice p n c) (NotInt.bool _)
  refine ⟨⟨Nat.lt_of_lt_of_le h.sts.1 hg.size, fun i v hv => h.sts.2 i v ((World.cell?_of_block (a := ⟨g, i, none⟩) hb).symm.trans hv)⟩, fun i hi => (World.frozen?_of_block (a := ⟨g, i, none⟩) hb).trans (h.free i hi), fun i hi => by rw [World.cell?_of_block (a := ⟨g, i, none⟩) hb]; exact h.has i hi, fun j hj => ?_⟩
  obtain ⟨s, p, n, c, e0, e1, e2⟩ := h.val j hj
  exact ⟨s, p, n, c, (World.cell?_of_block (a := ⟨g, _, none⟩) hb).trans e0, (World.cell?_of_block (a := ⟨g, _, none⟩) hb).trans e1, e2.i32 h32⟩
set_option maxHeartbeats 4000000 in
set_option maxRecDepth 100000 in
theorem c_timesM (v : Value) (m : Nat) (f : Nat → Int) (s : Bool) (p : Option Addr) (n c : Nat) (a : Int) (t : Bool) (q : Option Addr) (m' d : Nat) (b : Int) (w : World) (h : ZL f w v m) (ha : Zs w s p n c a) (hb : Zs w t q m' d b) (h0 : 0 < m) (hm : m ≤ 1000) (hn : n ≤ 10) (hn' : m' ≤ 10) (hf : ∀ j, nd (f j).natAbs ≤ 1000) (hz : ∀ j, m ≤ j → f j = 0) :
    Calls Tryz.prog 123 #[v, .agg #[.bool s, .slice p n c], .agg #[.bool t, .slice q m' d]] w fun e w' => (∃ g, e = .returned (.slice (some ⟨g, 0, none⟩) ((m + 1 : Nat)) ((m + 1 : Nat))) ∧ w.heap.size ≤ g ∧ ZRow (lin a b f) w' g (m + 1) (m + 1)) ∧ Below w.heap.size w w' := by
  obtain ⟨g1, o1, l1, rfl, hg1, r1⟩ := h.resolve_left (fun h => by omega)
  have HR0 := Lib.hid r1
  have HF := Lib.hid hf
  have HZ0 := Lib.hid hz
  have HA := Lib.hid ha
  have HB := Lib.hid hb
  obtain ⟨N, hN⟩ : ∃ N, m + 1 = N := ⟨_, rfl⟩
  have hNi : (m : Int) + 1 = (N : Nat) := by omega
  have hmk := makeZ N (by omega)
  rw [hN]
  clear h r1 hf ha hb hz
  go_enter Tryz.func123, Tryz.ntmps123
  go_wp2_with fail
  obtain ⟨w0, hw0⟩ : ∃ w0, (w.alloc (.cells #[.bool s, .slice p n c] 33)).alloc (.cells #[.bool t, .slice q m' d] 33) = w0 := ⟨_, rfl⟩
  obtain ⟨X0, X1, hb0⟩ := box2 w #[.bool s, .slice p n c] 33 #[.bool t, .slice q m' d] 33
  rw [hw0] at X0 X1 hb0
  have hs0 : w0.heap.size = w.heap.size + 1 + 1 := by rw [← hw0]; simp
  have hrm := ZRow.made (lin a b f) w0 N
  obtain ⟨wn, hwn⟩ : ∃ wn, w0.alloc (.cells (madeCells #[.bool false, .slice none 0 0] (N * 2)) 33) = wn := ⟨_, rfl⟩
  have hbn : Below w0.heap.size w0 wn := hwn ▸ (Below.refl _ _).alloc (Nat.le_refl _) _
  rw [hwn] at hrm
  rw [hw0, hwn]
  obtain ⟨gx, hgx⟩ : ∃ gx, w.heap.size = gx := ⟨_, rfl⟩
  obtain ⟨gy, hgy⟩ : ∃ gy, gx + 1 = gy := ⟨_, rfl⟩
  obtain ⟨g, hg⟩ : ∃ g, gy + 1 = g := ⟨_, rfl⟩
  rw [hgx, hgy, hg] at hs0
  rw [hgx] at X0 X1
  rw [hgy] at X1
  rw [hs0] at hrm hbn
  rw [hgx, hgy, hg]
  have HX0 := Lib.hid X0
  have HX1 := Lib.hid X1
  have HBN := Lib.hid hbn
  have HRM := Lib.hid hrm
  have hgl : w.heap.size ≤ g := by omega
  have hxl : gx < g := by omega
  have hyl : gy < g := by omega
  have HW := Lib.hid hb0
  have HG1 := Lib.hid (show g1 < g by omega)
  have HR := Lib.hid (fun j (hj : j < m) => ZE.keep (HR0.out j hj) hb0)
  have HAX := Lib.hid (HA.out.keep hb0)
  have HBX := Lib.hid (HB.out.keep hb0)
  have HS0 := Lib.hid hs0
  clear X0 X1 hb0 hw0 hwn hrm hbn hg1 hgx hgy hg hs0 hmk HR0 HA HB
  go_loopw [16] (fun i wr => ∃ k : Nat, k ≤ N ∧ i = .int .i64 k ∧ ZRow (lin a b f) wr g N k ∧ Below g w0 wr) (fun i _ => N - (intOf i).toNat)
  case atStart => exact ⟨0, Nat.zero_le _, rfl, HRM.out, HBN.out⟩
  case round =>
    obtain ⟨k, hk, rfl, hrow, hbr⟩ := hrel
    obtain ⟨w1, rfl⟩ : ∃ w1 : World, w1 = wr := ⟨_, rfl⟩
    have HROW := Lib.hid hrow
    have HBR := Lib.hid hbr
    clear hrow hbr HBN HRM
    by_cases hlt : k < N
    · have hkN : (k : Int) < (N : Int) := by omega
      go_wp2_with fail
      refine (c_Of 0 w1 (by omega) (by omega)).mono ?_
      rintro e w2 ⟨⟨s3, p3, n3, c3, rfl, hz3⟩, hb3⟩
      have hsz2 : g < w2.heap.size := Nat.lt_of_lt_of_le HROW.out.sts.1 hb3.size
      have HROW2 := Lib.hid (ZRow.keep HROW.out hb3)
      have HBR2 := Lib.hid (HBR.out.trans (hb3.mono (Nat.le_of_lt HROW.out.sts.1)))
      have HZ3 := Lib.hid hz3
      clear hz3 hb3 HROW HBR
      go_upto_if 21 with (fail)
      obtain ⟨w3, hw3⟩ : ∃ w3, w2.alloc (.cells #[.bool s3, .slice p3 n3 c3] 33) = w3 := ⟨_, rfl⟩
      have hb3 : Below w2.heap.size w2 w3 := hw3 ▸ (Below.refl _ _).alloc (Nat.le_refl _) _
      have XR := hw3 ▸ Blk.new w2 33 #[.bool s3, .slice p3 n3 c3]
      rw [hw3]
      obtain ⟨R, hR⟩ : ∃ R, w2.heap.size = R := ⟨_, rfl⟩
      rw [hR] at XR ⊢
      have hRg : g < R := by omega
      have HV3 := Lib.hid (show VarZ w3 R 0 from ⟨s3, p3, n3, c3, XR, HZ3.out.keep hb3⟩)
      have HROW3 := Lib.hid (ZRow.keep HROW2.out hb3)
      have HBR3 := Lib.hid (HBR2.out.trans (hb3.mono (Nat.le_of_lt hsz2)))
      clear hw3 hb3 XR hR hsz2 HROW2 HBR2 HZ3
      obtain ⟨u1, hu1⟩ : ∃ u1, (if 0 < k then a * f (k - 1) else 0) = u1 := ⟨_, rfl⟩
      have HU1 := Lib.hid hu1
      clear hu1
      go_cut [] from 20 to 28 (fun wd => VarZ wd R u1 ∧ ZRow (lin a b f) wd g N k ∧ Below g w0 wd)
      case first =>
        by_cases hk0 : 0 < k
        · obtain ⟨k1, hk1⟩ : ∃ k1, k = k1 + 1 := ⟨k - 1, by omega⟩
          have HU := Lib.hid (show a * f k1 = u1 by rw [← HU1.out, if_pos hk0, hk1, Nat.add_sub_cancel])
          obtain ⟨we, rfl⟩ : ∃ we : World, we = w3 := ⟨_, rfl⟩
          have hbm : Below w0.heap.size w0 we := HS0.out ▸ HBR3.out
          obtain ⟨s', p', i', c', a0, a1, hx⟩ := (HR.out k1 (by omega)).keep hbm
          have HP := Lib.hid (show Zs we s' p' i' c' (f k1) from hx)
          have x0 := (HX0.out.below_ HBR3.out hxl).at_ 0 rfl
          have x1 := (HX0.out.below_ HBR3.out hxl).at_ 1 rfl
          have HX := Lib.hid (HAX.out.keep hbm)
          have HI := Lib.hid (show i' ≤ 1000 by rw [← hx.2.1]; exact HF.out k1)
          have HM1 := Lib.hid (fun W (hb : Below we.heap.size we W) => c_Mul s p n c a s' p' i' c' (f k1) W (HX.out.keep hb).raw (HP.out.keep hb).raw (by omega) (by have := HI.out; omega))
          rw [HU.out] at HM1
          obtain ⟨s5, p5, n5, c5, XR, _⟩ := HV3.out
          have HXR := Lib.hid XR
          have hkk1 : (k : Int) - 1 = (k1 : Nat) := by omega
          have hk1n : k1 < m := by omega
          have hk1i : (k1 : Int) < (m : Int) := by omega
          have hkw : IntKind.i64.wrap (k1 : Int) = (k1 : Nat) := IntWalk.i64_in _ (by omega)
          have hk00 : (0 : Int) ≤ (k1 : Int) := by omega
          have hg1 := HG1.out
          have hk0i : (0 : Int) < (k : Int) := by omega
          clear hx hbm HX HP hk1 HU HU1
          go_upto_region 7 with (fail)
          have hS1 : we.cell? ⟨gx, 0, none⟩ = some (.bool s) ∧ we.cell? ⟨gx, 1, none⟩ = some (.slice p n c) ∧ we.cell? ⟨g1, o1 + k1 * 2, none⟩ = some (.bool s') ∧ we.cell? ⟨g1, o1 + k1 * 2 + 1, none⟩ = some (.slice p' i' c') ∧ we.cell? ⟨R, 0, none⟩ = some (cellOf we ⟨R, 0, none⟩) ∧ we.frozen? ⟨R, 0, none⟩ = false ∧ Sts we (R) ∧ we.cell? ⟨R, 1, none⟩ = some (cellOf we ⟨R, 1, none⟩) ∧ we.frozen? ⟨R, 1, none⟩ = false ∧ Sts we (R) ∧ Below 0 we we ∧ 0 ≤ we.heap.size := ⟨x0, x1, a0, a1, cellOf_some (by rw [XR.at_ 0 rfl]; rfl), XR.free_ 0, Sts.box XR, cellOf_some (by rw [XR.at_ 1 rfl]; rfl), XR.free_ 1, Sts.box XR, (Below.refl 0 we), Nat.le_trans (Nat.zero_le _) (Below.size (Below.refl 0 we))⟩
          have hS0 : we.drew.cell? ⟨gx, 0, none⟩ = some (.bool s) ∧ we.drew.cell? ⟨gx, 1, none⟩ = some (.slice p n c) ∧ we.drew.cell? ⟨g1, o1 + k1 * 2, none⟩ = some (.bool s') ∧ we.drew.cell? ⟨g1, o1 + k1 * 2 + 1, none⟩ = some (.slice p' i' c') ∧ we.drew.cell? ⟨R, 0, none⟩ = some (cellOf we.drew ⟨R, 0, none⟩) ∧ we.drew.frozen? ⟨R, 0, none⟩ = false ∧ Sts we.drew (R) ∧ we.drew.cell? ⟨R, 1, none⟩ = some (cellOf we.drew ⟨R, 1, none⟩) ∧ we.drew.frozen? ⟨R, 1, none⟩ = false ∧ Sts we.drew (R) ∧ Below 0 we we.drew ∧ 0 ≤ we.drew.heap.size := S4_2_next (Below.refl _ we).drew hS1
          clear x0 x1 a0 a1 XR hS1
          have M1 : True := trivial
          go_region_held3 (fun w1 => w1.cell? ⟨gx, 0, none⟩ = some (.bool s) ∧ w1.cell? ⟨gx, 1, none⟩ = some (.slice p n c) ∧ w1.cell? ⟨g1, o1 + k1 * 2, none⟩ = some (.bool s') ∧ w1.cell? ⟨g1, o1 + k1 * 2 + 1, none⟩ = some (.slice p' i' c') ∧ w1.cell? ⟨R, 0, none⟩ = some (cellOf w1 ⟨R, 0, none⟩) ∧ w1.frozen? ⟨R, 0, none⟩ = false ∧ Sts w1 (R) ∧ w1.cell? ⟨R, 1, none⟩ = some (cellOf w1 ⟨R, 1, none⟩) ∧ w1.frozen? ⟨R, 1, none⟩ = false ∧ Sts w1 (R) ∧ Below 0 we w1 ∧ 0 ≤ w1.heap.size)
            (first | with_reducible exact hS0 | with_reducible assumption | (refine S4_2_next (by with_reducible assumption) ?_; assumption) | (refine S4_2_put ?_ ?_ ?_ ?_ ?_ ?_ ?_ ?_ ?_ ?_ ?_ ?_ ?_ <;> first | assumption | exact NotInt.bool _ | exact NotInt.slice _ _ _ | (dsimp only; omega) | (simp; done)))
            (first
              | (go_at_call 78; refine (HM1.out _ (by first | exact (Below.refl _ _).drew | exact Below.refl _ _)).mono ?_; rintro e w4 ⟨⟨s4, p4, n4, c4, rfl, hz4⟩, hb4⟩; have hbe : Below we.heap.size we w4 := (by first | exact (Below.refl _ we).drew.trans hb4 | exact hb4); have HBE4 := Lib.hid hbe; have HZ4 := Lib.hid hz4; clear hz4 hbe))
          all_goals go_wp2
          all_goals go_meet
          all_goals have hb9 := HBE4.out
          all_goals obtain ⟨hv1, hv2⟩ := one_put (HXR.out.below_ hb9 HXR.out.lt) HZ4.out
          all_goals exact ⟨⟨_, _, _, _, hv1, hv2⟩, ZRow.var (ZRow.keep HROW3.out hb9) (HXR.out.below_ hb9 HXR.out.lt) (Nat.ne_of_lt hRg), below_put2 (HBR3.out.trans (hb9.mono (Nat.le_of_lt HROW3.out.sts.1))) (Nat.le_of_lt hRg)⟩
        · have HU := Lib.hid (show 0 = u1 by rw [← HU1.out, if_neg hk0])
          obtain rfl : k = 0 := by omega
          go_wp2
          go_meet
          exact ⟨HU.out ▸ HV3.out, HROW3.out, HBR3.out⟩
      case rest =>
        obtain ⟨hv, hr, hb⟩ := hcut
        obtain ⟨we, rfl⟩ : ∃ we : World, we = wc := ⟨_, rfl⟩
        have HV4 := Lib.hid hv
        have HROW4 := Lib.hid hr
        have HBR4 := Lib.hid hb
        clear hv hr hb HV3 HROW3 HBR3
        go_upto_if 32 with (fail)
        go_cut [] from 29 to 40 (fun wd => VarZ wd R (lin a b f k) ∧ ZRow (lin a b f) wd g N k ∧ Below g w0 wd)
        case first =>
          by_cases hkm : k < m
          · have HU := Lib.hid (show u1 + b * f k = lin a b f k by unfold lin; rw [HU1.out])
            have hbm : Below w0.heap.size w0 we := HS0.out ▸ HBR4.out
            obtain ⟨s', p', i', c', a0, a1, hx⟩ := (HR.out k hkm).keep hbm
            have HP := Lib.hid (show Zs we s' p' i' c' (f k) from hx)
            have x0 := (HX1.out.below_ HBR4.out hyl).at_ 0 rfl
            have x1 := (HX1.out.below_ HBR4.out hyl).at_ 1 rfl
            have HX := Lib.hid (HBX.out.keep hbm)
            have HI := Lib.hid (show i' ≤ 1000 by rw [← hx.2.1]; exact HF.out k)
            have HM1 := Lib.hid (fun W (hb : Below we.heap.size we W) => c_Mul t q m' d b s' p' i' c' (f k) W (HX.out.keep hb).raw (HP.out.keep hb).raw (by omega) (by have := HI.out; omega))
            obtain ⟨s5, p5, n5, c5, XR, hv5⟩ := HV4.out
            have HXR := Lib.hid XR
            have HV5 := Lib.hid hv5
            have HEE := Lib.hid (show Cells2 we R 0 s5 p5 n5 c5 from ⟨XR.at_ 0 rfl, XR.at_ 1 rfl⟩)
            have HSU := Lib.hid (show n5 ≤ 2000 by
              rw [← hv5.2.1, ← HU1.out]
              split
              · rw [Int.natAbs_mul]
                have h1 := nd_mul a.natAbs (f (k - 1)).natAbs
                have h2 := HF.out (k - 1)
                have h3 : nd a.natAbs ≤ 10 := by rw [HAX.out.2.1]; exact hn
                omega
              · simp [nd_zero])
            have HSP := Lib.hid (show nd (b * f k).natAbs ≤ 2000 by
              rw [Int.natAbs_mul]
              have h1 := nd_mul b.natAbs (f k).natAbs
              have h2 := HF.out k
              have h3 : nd b.natAbs ≤ 10 := by rw [HBX.out.2.1]; exact hn'
              omega)
            have hkmi : (k : Int) < (m : Int) := by omega
            have hg1 := HG1.out
            clear hx hbm HX HP HU1 hv5
            go_upto_region 9 with (fail)
            have hS1 : we.cell? ⟨gy, 0, none⟩ = some (.bool t) ∧ we.cell? ⟨gy, 1, none⟩ = some (.slice q m' d) ∧ we.cell? ⟨g1, o1 + k * 2, none⟩ = some (.bool s') ∧ we.cell? ⟨g1, o1 + k * 2 + 1, none⟩ = some (.slice p' i' c') ∧ we.cell? ⟨R, 0, none⟩ = some (cellOf we ⟨R, 0, none⟩) ∧ we.frozen? ⟨R, 0, none⟩ = false ∧ Sts we (R) ∧ we.cell? ⟨R, 1, none⟩ = some (cellOf we ⟨R, 1, none⟩) ∧ we.frozen? ⟨R, 1, none⟩ = false ∧ Sts we (R) ∧ Below 0 we we ∧ 0 ≤ we.heap.size := ⟨x0, x1, a0, a1, cellOf_some (by rw [XR.at_ 0 rfl]; rfl), XR.free_ 0, Sts.box XR, cellOf_some (by rw [XR.at_ 1 rfl]; rfl), XR.free_ 1, Sts.box XR, (Below.refl 0 we), Nat.le_trans (Nat.zero_le _) (Below.size (Below.refl 0 we))⟩
            have hS0 : we.drew.cell? ⟨gy, 0, none⟩ = some (.bool t) ∧ we.drew.cell? ⟨gy, 1, none⟩ = some (.slice q m' d) ∧ we.drew.cell? ⟨g1, o1 + k * 2, none⟩ = some (.bool s') ∧ we.drew.cell? ⟨g1, o1 + k * 2 + 1, none⟩ = some (.slice p' i' c') ∧ we.drew.cell? ⟨R, 0, none⟩ = some (cellOf we.drew ⟨R, 0, none⟩) ∧ we.drew.frozen? ⟨R, 0, none⟩ = false ∧ Sts we.drew (R) ∧ we.drew.cell? ⟨R, 1, none⟩ = some (cellOf we.drew ⟨R, 1, none⟩) ∧ we.drew.frozen? ⟨R, 1, none⟩ = false ∧ Sts we.drew (R) ∧ Below 0 we we.drew ∧ 0 ≤ we.drew.heap.size := S4_2_next (Below.refl _ we).drew hS1
            clear x0 x1 a0 a1 XR hS1
            have M1 : True := trivial
            refine wp_region_held_drew (S := (fun w1 => w1.cell? ⟨gy, 0, none⟩ = some (.bool t) ∧ w1.cell? ⟨gy, 1, none⟩ = some (.slice q m' d) ∧ w1.cell? ⟨g1, o1 + k * 2, none⟩ = some (.bool s') ∧ w1.cell? ⟨g1, o1 + k * 2 + 1, none⟩ = some (.slice p' i' c') ∧ w1.cell? ⟨R, 0, none⟩ = some (cellOf w1 ⟨R, 0, none⟩) ∧ w1.frozen? ⟨R, 0, none⟩ = false ∧ Sts w1 (R) ∧ w1.cell? ⟨R, 1, none⟩ = some (cellOf w1 ⟨R, 1, none⟩) ∧ w1.frozen? ⟨R, 1, none⟩ = false ∧ Sts w1 (R) ∧ Below 0 we w1 ∧ 0 ≤ w1.heap.size)) (by kernel_rfl) ?_ (fun hHeld0 => ?_)
            focus ((try dsimp only); (first | with_reducible exact hS0 | with_reducible assumption | (refine S4_2_next (by with_reducible assumption) ?_; assumption) | (refine S4_2_put ?_ ?_ ?_ ?_ ?_ ?_ ?_ ?_ ?_ ?_ ?_ ?_ ?_ <;> first | assumption | exact NotInt.bool _ | exact NotInt.slice _ _ _ | (dsimp only; omega) | (simp; done))))
            refine wpAnyH_take (i := 1) (v := ?_) rfl (by kernel_rfl) (by kernel_rfl) (by kernel_rfl) (fun _ _ _ h => h) (Or.inl ⟨by rfl, ?_⟩) (by assumption) ?_
            rotate_left
            focus (intro w hSw; (try dsimp only at hSw); go_simp; (try with_reducible rfl))
            focus (try simp only [Act.put, List.setIfInBounds_toArray, List.set_cons_zero, List.set_cons_succ])
            refine wpAnyH_take (i := 2) (v := ?_) rfl (by kernel_rfl) (by kernel_rfl) (by kernel_rfl) (fun _ _ _ h => h) (Or.inl ⟨by rfl, ?_⟩) (by assumption) ?_
            rotate_left
            focus (intro w hSw; (try dsimp only at hSw); go_simp; (try with_reducible rfl))
            focus (try simp only [Act.put, List.setIfInBounds_toArray, List.set_cons_zero, List.set_cons_succ])
            refine wpAnyH_take (i := 3) (v := ?_) rfl (by kernel_rfl) (by kernel_rfl) (by kernel_rfl) (fun _ _ _ h => h) (Or.inl ⟨by rfl, ?_⟩) (by assumption) ?_
            rotate_left
            focus (intro w hSw; (try dsimp only at hSw); go_simp; (try with_reducible rfl))
            focus (try simp only [Act.put, List.setIfInBounds_toArray, List.set_cons_zero, List.set_cons_succ])
            refine wpAnyH_take (i := 4) (v := ?_) rfl (by kernel_rfl) (by kernel_rfl) (by kernel_rfl) (fun _ _ _ h => h) (Or.inl ⟨by rfl, ?_⟩) (by assumption) ?_
            rotate_left
            focus (intro w hSw; (try dsimp only at hSw); go_simp; (try with_reducible rfl))
            focus (try simp only [Act.put, List.setIfInBounds_toArray, List.set_cons_zero, List.set_cons_succ])
            refine wpAnyH_take (i := 5) (v := ?_) rfl (by kernel_rfl) (by kernel_rfl) (by kernel_rfl) (fun _ _ _ h => h) (Or.inl ⟨by rfl, ?_⟩) (by assumption) ?_
            rotate_left
            focus (intro w hSw; (try dsimp only at hSw); go_simp; (try with_reducible rfl))
            focus (try simp only [Act.put, List.setIfInBounds_toArray, List.set_cons_zero, List.set_cons_succ])
            refine wpAnyH_ready (rs := [0, 6]) (by kernel_rfl) (by simp) ?_
            refine AllReadyH.cons rfl (fun K hK => ?_) ?_
            focus (go_simp; refine hK.out _ _ ?_ (fun hHeld1 => ?_))
            focus ((try dsimp only); (first | with_reducible exact hS0 | with_reducible assumption | (refine S4_2_next (by with_reducible assumption) ?_; assumption) | (refine S4_2_put ?_ ?_ ?_ ?_ ?_ ?_ ?_ ?_ ?_ ?_ ?_ ?_ ?_ <;> first | assumption | exact NotInt.bool _ | exact NotInt.slice _ _ _ | (dsimp only; omega) | (simp; done))))
            focus (clear hK K hHeld0; (try simp only [Act.put, List.setIfInBounds_toArray, List.set_cons_zero, List.set_cons_succ]))
            refine wpAnyH_ready (rs := [6]) (by kernel_rfl) (by simp) ?_
            refine AllReadyH.cons rfl (fun K hK => ?_) ?_
            focus (go_simp; (first | (go_at_call 78; refine (HM1.out _ (by first | exact (Below.refl _ _).drew | exact Below.refl _ _)).mono ?_; rintro e w4 ⟨⟨s4, p4, n4, c4, rfl, hz4⟩, hb4⟩; have hbe : Below we.heap.size we w4 := (by first | exact (Below.refl _ we).drew.trans hb4 | exact hb4); have HBE4 := Lib.hid hbe; have HZ4 := Lib.hid hz4; clear hz4 hbe; have HEE2 := Lib.hid (HEE.out.keep HBE4.out); have HEE1 := Lib.hid (show Cells2 we.drew R 0 s5 p5 n5 c5 from HEE.out)) | (go_at_call 73; (first | rw [cellOf_eq HEE2.out.1, cellOf_eq HEE2.out.2] | rw [cellOf_eq HEE1.out.1, cellOf_eq HEE1.out.2]); refine (c_Add s5 p5 n5 c5 u1 s4 p4 n4 c4 (b * f k) _ (HV5.out.keep HBE4.out).raw HZ4.out.raw (by have := HSU.out; omega) (by rw [← HZ4.out.2.1]; have := HSP.out; omega)).mono ?_; rintro e w6 ⟨⟨s6, p6, n6, c6, rfl, hz6⟩, hb6⟩; have HBE6 := Lib.hid (HBE4.out.trans (hb6.mono HBE4.out.size)); have HZ6 := Lib.hid hz6; clear hz6)); (first | done | with_reducible refine hK.out _ _ ?_ (fun hHeld2 => ?_) | (go_wp2_with fail; with_reducible refine hK.out _ _ ?_ (fun hHeld2 => ?_))))
            focus ((try dsimp only); (first | with_reducible exact hS0 | with_reducible assumption | (refine S4_2_next (by with_reducible assumption) ?_; assumption) | (refine S4_2_put ?_ ?_ ?_ ?_ ?_ ?_ ?_ ?_ ?_ ?_ ?_ ?_ ?_ <;> first | assumption | exact NotInt.bool _ | exact NotInt.slice _ _ _ | (dsimp only; omega) | (simp; done))))
            focus (clear hK K hHeld1; (try simp only [Act.put, List.setIfInBounds_toArray, List.set_cons_zero, List.set_cons_succ]))
            refine wpAnyH_ready (rs := [7]) (by kernel_rfl) (by simp) ?_
            refine AllReadyH.cons rfl (fun K hK => ?_) ?_
            focus (go_simp; (first | (go_at_call 78; refine (HM1.out _ (by first | exact (Below.refl _ _).drew | exact Below.refl _ _)).mono ?_; rintro e w4 ⟨⟨s4, p4, n4, c4, rfl, hz4⟩, hb4⟩; have hbe : Below we.heap.size we w4 := (by first | exact (Below.refl _ we).drew.trans hb4 | exact hb4); have HBE4 := Lib.hid hbe; have HZ4 := Lib.hid hz4; clear hz4 hbe; have HEE2 := Lib.hid (HEE.out.keep HBE4.out); have HEE1 := Lib.hid (show Cells2 we.drew R 0 s5 p5 n5 c5 from HEE.out)) | (go_at_call 73; (first | rw [cellOf_eq HEE2.out.1, cellOf_eq HEE2.out.2] | rw [cellOf_eq HEE1.out.1, cellOf_eq HEE1.out.2]); refine (c_Add s5 p5 n5 c5 u1 s4 p4 n4 c4 (b * f k) _ (HV5.out.keep HBE4.out).raw HZ4.out.raw (by have := HSU.out; omega) (by rw [← HZ4.out.2.1]; have := HSP.out; omega)).mono ?_; rintro e w6 ⟨⟨s6, p6, n6, c6, rfl, hz6⟩, hb6⟩; have HBE6 := Lib.hid (HBE4.out.trans (hb6.mono HBE4.out.size)); have HZ6 := Lib.hid hz6; clear hz6)); (first | done | with_reducible refine hK.out _ _ ?_ (fun hHeld3 => ?_) | (go_wp2_with fail; with_reducible refine hK.out _ _ ?_ (fun hHeld3 => ?_))))
            focus ((try dsimp only); (first | with_reducible exact hS0 | with_reducible assumption | (refine S4_2_next (by with_reducible assumption) ?_; assumption) | (refine S4_2_put ?_ ?_ ?_ ?_ ?_ ?_ ?_ ?_ ?_ ?_ ?_ ?_ ?_ <;> first | assumption | exact NotInt.bool _ | exact NotInt.slice _ _ _ | (dsimp only; omega) | (simp; done))))
            focus (clear hK K hHeld2; (try simp only [Act.put, List.setIfInBounds_toArray, List.set_cons_zero, List.set_cons_succ]))
            refine wpAnyH_ready (rs := [8]) (by kernel_rfl) (by simp) ?_
            refine AllReadyH.cons rfl (fun K hK => ?_) ?_
            focus (go_simp; refine hK.out _ _ ?_ (fun hHeld4 => ?_))
            focus ((try dsimp only); (first | with_reducible exact hS0 | with_reducible assumption | (refine S4_2_next (by with_reducible assumption) ?_; assumption) | (refine S4_2_put ?_ ?_ ?_ ?_ ?_ ?_ ?_ ?_ ?_ ?_ ?_ ?_ ?_ <;> first | assumption | exact NotInt.bool _ | exact NotInt.slice _ _ _ | (dsimp only; omega) | (simp; done))))
            focus (clear hK K hHeld3; (try simp only [Act.put, List.setIfInBounds_toArray, List.set_cons_zero, List.set_cons_succ]))
            focus (refine wpAnyH_done (by kernel_rfl) ?_ _)
            rotate_left
            exact AllReadyH.nil
            exact AllReadyH.nil
            exact AllReadyH.nil
            refine AllReadyH.cons rfl (fun K hK => ?_) ?_
            focus (go_simp; (first | (go_at_call 78; refine (HM1.out _ (by first | exact (Below.refl _ _).drew | exact Below.refl _ _)).mono ?_; rintro e w4 ⟨⟨s4, p4, n4, c4, rfl, hz4⟩, hb4⟩; have hbe : Below we.heap.size we w4 := (by first | exact (Below.refl _ we).drew.trans hb4 | exact hb4); have HBE4 := Lib.hid hbe; have HZ4 := Lib.hid hz4; clear hz4 hbe; have HEE2 := Lib.hid (HEE.out.keep HBE4.out); have HEE1 := Lib.hid (show Cells2 we.drew R 0 s5 p5 n5 c5 from HEE.out)) | (go_at_call 73; (first | rw [cellOf_eq HEE2.out.1, cellOf_eq HEE2.out.2] | rw [cellOf_eq HEE1.out.1, cellOf_eq HEE1.out.2]); refine (c_Add s5 p5 n5 c5 u1 s4 p4 n4 c4 (b * f k) _ (HV5.out.keep HBE4.out).raw HZ4.out.raw (by have := HSU.out; omega) (by rw [← HZ4.out.2.1]; have := HSP.out; omega)).mono ?_; rintro e w6 ⟨⟨s6, p6, n6, c6, rfl, hz6⟩, hb6⟩; have HBE6 := Lib.hid (HBE4.out.trans (hb6.mono HBE4.out.size)); have HZ6 := Lib.hid hz6; clear hz6)); (first | done | with_reducible refine hK.out _ _ ?_ (fun hHeld1 => ?_) | (go_wp2_with fail; with_reducible refine hK.out _ _ ?_ (fun hHeld1 => ?_))))
            focus ((try dsimp only); (first | with_reducible exact hS0 | with_reducible assumption | (refine S4_2_next (by with_reducible assumption) ?_; assumption) | (refine S4_2_put ?_ ?_ ?_ ?_ ?_ ?_ ?_ ?_ ?_ ?_ ?_ ?_ ?_ <;> first | assumption | exact NotInt.bool _ | exact NotInt.slice _ _ _ | (dsimp only; omega) | (simp; done))))
            focus (clear hK K hHeld0; (try simp only [Act.put, List.setIfInBounds_toArray, List.set_cons_zero, List.set_cons_succ]))
            refine wpAnyH_ready (rs := [0]) (by kernel_rfl) (by simp) ?_
            refine AllReadyH.cons rfl (fun K hK => ?_) ?_
            focus (go_simp; refine hK.out _ _ ?_ (fun hHeld2 => ?_))
            focus ((try dsimp only); (first | with_reducible exact hS0 | with_reducible assumption | (refine S4_2_next (by with_reducible assumption) ?_; assumption) | (refine S4_2_put ?_ ?_ ?_ ?_ ?_ ?_ ?_ ?_ ?_ ?_ ?_ ?_ ?_ <;> first | assumption | exact NotInt.bool _ | exact NotInt.slice _ _ _ | (dsimp only; omega) | (simp; done))))
            focus (clear hK K hHeld1; (try simp only [Act.put, List.setIfInBounds_toArray, List.set_cons_zero, List.set_cons_succ]))
            refine wpAnyH_ready (rs := [7]) (by kernel_rfl) (by simp) ?_
            refine AllReadyH.cons rfl (fun K hK => ?_) ?_
            focus (go_simp; (first | (go_at_call 78; refine (HM1.out _ (by first | exact (Below.refl _ _).drew | exact Below.refl _ _)).mono ?_; rintro e w4 ⟨⟨s4, p4, n4, c4, rfl, hz4⟩, hb4⟩; have hbe : Below we.heap.size we w4 := (by first | exact (Below.refl _ we).drew.trans hb4 | exact hb4); have HBE4 := Lib.hid hbe; have HZ4 := Lib.hid hz4; clear hz4 hbe; have HEE2 := Lib.hid (HEE.out.keep HBE4.out); have HEE1 := Lib.hid (show Cells2 we.drew R 0 s5 p5 n5 c5 from HEE.out)) | (go_at_call 73; (first | rw [cellOf_eq HEE2.out.1, cellOf_eq HEE2.out.2] | rw [cellOf_eq HEE1.out.1, cellOf_eq HEE1.out.2]); refine (c_Add s5 p5 n5 c5 u1 s4 p4 n4 c4 (b * f k) _ (HV5.out.keep HBE4.out).raw HZ4.out.raw (by have := HSU.out; omega) (by rw [← HZ4.out.2.1]; have := HSP.out; omega)).mono ?_; rintro e w6 ⟨⟨s6, p6, n6, c6, rfl, hz6⟩, hb6⟩; have HBE6 := Lib.hid (HBE4.out.trans (hb6.mono HBE4.out.size)); have HZ6 := Lib.hid hz6; clear hz6)); (first | done | with_reducible refine hK.out _ _ ?_ (fun hHeld3 => ?_) | (go_wp2_with fail; with_reducible refine hK.out _ _ ?_ (fun hHeld3 => ?_))))
            focus ((try dsimp only); (first | with_reducible exact hS0 | with_reducible assumption | (refine S4_2_next (by with_reducible assumption) ?_; assumption) | (refine S4_2_put ?_ ?_ ?_ ?_ ?_ ?_ ?_ ?_ ?_ ?_ ?_ ?_ ?_ <;> first | assumption | exact NotInt.bool _ | exact NotInt.slice _ _ _ | (dsimp only; omega) | (simp; done))))
            focus (clear hK K hHeld2; (try simp only [Act.put, List.setIfInBounds_toArray, List.set_cons_zero, List.set_cons_succ]))
            refine wpAnyH_ready (rs := [8]) (by kernel_rfl) (by simp) ?_
            refine AllReadyH.cons rfl (fun K hK => ?_) ?_
            focus (go_simp; refine hK.out _ _ ?_ (fun hHeld4 => ?_))
            focus ((try dsimp only); (first | with_reducible exact hS0 | with_reducible assumption | (refine S4_2_next (by with_reducible assumption) ?_; assumption) | (refine S4_2_put ?_ ?_ ?_ ?_ ?_ ?_ ?_ ?_ ?_ ?_ ?_ ?_ ?_ <;> first | assumption | exact NotInt.bool _ | exact NotInt.slice _ _ _ | (dsimp only; omega) | (simp; done))))
            focus (clear hK K hHeld3; (try simp only [Act.put, List.setIfInBounds_toArray, List.set_cons_zero, List.set_cons_succ]))
            focus (refine wpAnyH_done (by kernel_rfl) ?_ _)
            rotate_left
            exact AllReadyH.nil
            exact AllReadyH.nil
            exact AllReadyH.nil
            exact AllReadyH.nil
            all_goals go_wp2
            all_goals go_meet
            all_goals have hb9 := HBE6.out
            all_goals obtain ⟨hv1, hv2⟩ := one_put (HXR.out.below_ hb9 HXR.out.lt) HZ6.out
            all_goals exact ⟨⟨_, _, _, _, hv1, HU.out ▸ hv2⟩, ZRow.var (ZRow.keep HROW4.out hb9) (HXR.out.below_ hb9 HXR.out.lt) (Nat.ne_of_lt hRg), below_put2 (HBR4.out.trans (hb9.mono (Nat.le_of_lt HROW4.out.sts.1))) (Nat.le_of_lt hRg)⟩
          · have HU := Lib.hid (show u1 = lin a b f k by unfold lin; rw [HU1.out, HZ0.out k (by omega), Int.mul_zero, Int.add_zero])
            go_wp2
            go_meet
            exact ⟨HU.out ▸ HV4.out, HROW4.out, HBR4.out⟩
        case rest =>
          obtain ⟨⟨s5, p5, n5, c5, XR, hv5⟩, hr, hb⟩ := hcut
          obtain ⟨w7, rfl⟩ : ∃ w7 : World, w7 = wc := ⟨_, rfl⟩
          have y0 := XR.at_ 0 rfl
          have y1 := XR.at_ 1 rfl
          have HQA := Lib.hid (ZRow.set (k' := k + 1) hr k hlt (lin a b f) (fun i' h1 h2 => ⟨by omega, rfl⟩) hv5)
          have HB7 := Lib.hid hb
          obtain ⟨u0, hu0⟩ := Option.isSome_iff_exists.1 (hr.has (k * 2) (by omega))
          obtain ⟨u2, hu2⟩ := Option.isSome_iff_exists.1 (hr.has (k * 2 + 1) (by omega))
          have f0 := hr.free (k * 2) (by omega)
          have f1 := hr.free (k * 2 + 1) (by omega)
          clear XR hv5 hr hb HV4 HROW4 HBR4
          go_wp2
          go_roundw
          case rel => exact ⟨k + 1, by omega, by go_num, HQA.out, below_put2 HB7.out (Nat.le_refl _)⟩
          case measure => simp [intOf]; omega
    · obtain rfl : N = k := by omega
      have hbr := HBR.out
      clear hbr
      go_wp2
      go_ret
      exact ⟨⟨g, rfl, hgl, HROW.out⟩, HW.out.trans (HBR.out.mono hgl)⟩
end Go.Proofs.YthikonjlgljikaaGreatDoor
