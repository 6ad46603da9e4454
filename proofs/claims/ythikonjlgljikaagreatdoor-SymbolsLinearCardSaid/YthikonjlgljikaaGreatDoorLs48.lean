/- The law SymbolsLinear, walked: it returns true. -/
import Derived.Test.YthikonjlgljikaaGreatDoorLs47
namespace Go.Proofs.YthikonjlgljikaaGreatDoor
set_option linter.unusedSimpArgs false
open Go.RowKit Eli

theorem vecS_lin (U V : Nat → Rat) (X : Nat → Nat → Rat) (f : Nat) : ∀ k, vecS (fun j => U j - 3 * V j) X k f = vecS U X k f - 3 * vecS V X k f
  | 0 => by rw [vecS_zero, vecS_zero, vecS_zero]; grind
  | k + 1 => by rw [vecS_succ, vecS_succ, vecS_succ, vecS_lin U V X f k]; grind
set_option maxHeartbeats 4000000 in
set_option maxRecDepth 100000 in
theorem c_lawLin_bad (N k D : Int) (va vb : Value) (w : World) (hT : Tab w) (hck : Pl.check N k D ≠ 0) :
    Calls Tryz.prog 8 #[.agg #[.int .i64 N, .int .i64 k, .int .i64 D], va, vb] w fun e w' => e = .returned (.bool true) ∧ Below w.heap.size w w' := by
  have HLA := Lib.hid (fun W => c_Large_bad N k D W hck)
  have HNE := Lib.hid (fun W => c_New_check N k D W hck)
  obtain ⟨er, her⟩ : ∃ er, Pl.check N k D = er := ⟨_, rfl⟩
  rw [her] at hck HNE
  have hne : (er != 0) = true := by simpa using hck
  have HT := Lib.hid hT
  clear her hck hT
  go_enter Tryz.func8, Tryz.ntmps8
  go_wp2_with fail
  obtain ⟨w0, hw0⟩ : ∃ w0, w.alloc (.cells #[.int .i64 N, .int .i64 k, .int .i64 D] 23) = w0 := ⟨_, rfl⟩
  rw [hw0]
  obtain ⟨X0, hb0⟩ := box1 w #[.int .i64 N, .int .i64 k, .int .i64 D] 23
  rw [hw0] at X0 hb0
  refine (c_awake w0 (HT.out.below hb0)).mono ?_
  rintro e w1 ⟨rfl, hb1⟩
  have X1 := X0.below_ hb1 X0.lt
  have HB1 := Lib.hid (hb0.trans (hb1.mono hb0.size))
  have x0 := X1.at_ 0 rfl
  have x1 := X1.at_ 1 rfl
  have x2 := X1.at_ 2 rfl
  have HX1 := Lib.hid X1
  clear hw0 X0 hb0 hb1 X1
  go_wp2_with fail
  refine (HLA.out w1).mono ?_
  rintro e w2 ⟨rfl, hb2⟩
  have X2 := HX1.out.below_ hb2 HX1.out.lt
  have HB2 := Lib.hid (HB1.out.trans (hb2.mono HB1.out.size))
  clear x0 x1 x2 hb2
  have x0 := X2.at_ 0 rfl
  have x1 := X2.at_ 1 rfl
  have x2 := X2.at_ 2 rfl
  clear X2 HX1
  go_wp2_with fail
  refine (HNE.out w2).mono ?_
  rintro e w3 ⟨rfl, hb3⟩
  have HB3 := Lib.hid (HB2.out.trans (hb3.mono HB2.out.size))
  clear x0 x1 x2 hb3
  go_wp2
  go_ret
  exact ⟨rfl, HB3.out⟩
set_option maxHeartbeats 4000000 in
set_option maxRecDepth 100000 in
theorem c_lawLin_ok (n wt : Nat) (D : Int) (pa : Option Addr) (la ca : Nat) (xa : Nat → Int) (pb : Option Addr) (lb cb : Nat) (xb : Nat → Int) (w : World) (hT : Tab w) (hck : Pl.check n ((wt : Int) + 2) D = 0)
    (hpa : ∀ k, k < la → ∃ g o, pa = some ⟨g, o, none⟩ ∧ g < w.heap.size ∧ w.cell? ⟨g, o + k, none⟩ = some (.int .i8 (xa k))) (hxa : ∀ k, k < la → -128 ≤ xa k ∧ xa k ≤ 127)
    (hpb : ∀ k, k < lb → ∃ g o, pb = some ⟨g, o, none⟩ ∧ g < w.heap.size ∧ w.cell? ⟨g, o + k, none⟩ = some (.int .i8 (xb k))) (hxb : ∀ k, k < lb → -128 ≤ xb k ∧ xb k ≤ 127) :
    Calls Tryz.prog 8 #[.agg #[.int .i64 n, .int .i64 ((wt : Int) + 2), .int .i64 D], .slice pa la ca, .slice pb lb cb] w fun e w' => e = .returned (.bool true) ∧ Below w.heap.size w w' := by
  obtain ⟨h1, h2, h3, h4, h5, h6⟩ := check_zero hck
  have HLA := Lib.hid (fun W => c_Large n wt D W hck)
  have HNW := Lib.hid (fun W (hb : Below w.heap.size w W) (hC : cntF n wt ≤ 72) => c_New n wt D W (hT.below hb) hck hC)
  have HMC := Lib.hid (fun W (hb : Below w.heap.size w W) => c_MCount n wt D W (hT.below hb) hck)
  have HFA := Lib.hid (fun W (hb : Below w.heap.size w W) (m : Nat) (hm : m ≤ 1000) => c_fractions pa la ca xa m W (fun k hk => by obtain ⟨g, o, e, hg, hc⟩ := hpa k hk; exact ⟨g, o, e, Nat.lt_of_lt_of_le hg hb.size, (hb.cell (p := ⟨g, o + k, none⟩) hg).trans hc⟩) hxa hm)
  have HFB := Lib.hid (fun W (hb : Below w.heap.size w W) (m : Nat) (hm : m ≤ 1000) => c_fractions pb lb cb xb m W (fun k hk => by obtain ⟨g, o, e, hg, hc⟩ := hpb k hk; exact ⟨g, o, e, Nat.lt_of_lt_of_le hg hb.size, (hb.cell (p := ⟨g, o + k, none⟩) hg).trans hc⟩) hxb hm)
  obtain ⟨U, hU⟩ : ∃ U, frU xa la = U := ⟨_, rfl⟩
  obtain ⟨V, hV⟩ : ∃ V, frU xb lb = V := ⟨_, rfl⟩
  have HUS := Lib.hid (show ∀ j, hq (U j) ≤ 1 from fun j => hU ▸ frU_size hxa)
  have HVS := Lib.hid (show ∀ j, hq (V j) ≤ 1 from fun j => hV ▸ frU_size hxb)
  rw [hU] at HFA
  rw [hV] at HFB
  have HCP := Lib.hid (show 0 < cntF n wt from cntF_pos (by omega))
  have HCS := Lib.hid (fun (hC : cntF n wt ≤ 72) j f => coord_size (n := n) (wt := wt) (D := D) (by omega) hC (j := j) (f := f))
  obtain ⟨C, hC⟩ : ∃ C, cntF n wt = C := ⟨_, rfl⟩
  have hC2 : (wt + 1) * (pts n (n * n)).length = C := hC
  rw [hC2] at HLA
  rw [hC] at HNW HMC HCS HCP
  obtain ⟨L, hL⟩ : ∃ L, elF n wt D = L := ⟨_, rfl⟩
  rw [hL] at HNW HCS
  have HT := Lib.hid hT
  clear hT hck h1 h2 h3 h4 h5 h6 hC hC2 hL hpa hpb hxa hxb hU hV
  go_enter Tryz.func8, Tryz.ntmps8
  go_wp2_with fail
  obtain ⟨w0, hw0⟩ : ∃ w0, w.alloc (.cells #[.int .i64 n, .int .i64 ((wt : Int) + 2), .int .i64 D] 23) = w0 := ⟨_, rfl⟩
  rw [hw0]
  obtain ⟨X0, hb0⟩ := box1 w #[.int .i64 n, .int .i64 ((wt : Int) + 2), .int .i64 D] 23
  rw [hw0] at X0 hb0
  refine (c_awake w0 (HT.out.below hb0)).mono ?_
  rintro e w1 ⟨rfl, hb1⟩
  have X1 := X0.below_ hb1 X0.lt
  have HB1 := Lib.hid (hb0.trans (hb1.mono hb0.size))
  have x0 := X1.at_ 0 rfl
  have x1 := X1.at_ 1 rfl
  have x2 := X1.at_ 2 rfl
  have HX1 := Lib.hid X1
  clear hw0 X0 hb0 hb1 X1
  go_wp2_with fail
  refine (HLA.out w1).mono ?_
  rintro e w2 ⟨rfl, hb2⟩
  have X2 := HX1.out.below_ hb2 HX1.out.lt
  have HB2 := Lib.hid (HB1.out.trans (hb2.mono HB1.out.size))
  clear x0 x1 x2 hb2
  have x0 := X2.at_ 0 rfl
  have x1 := X2.at_ 1 rfl
  have x2 := X2.at_ 2 rfl
  have HX2 := Lib.hid X2
  clear X2 HX1
  by_cases hbig : 72 < C
  · have hd : decide (72 < C) = true := decide_eq_true hbig
    rw [hd]
    go_wp2
    go_ret
    exact ⟨rfl, HB2.out⟩
  have hd : decide (72 < C) = false := decide_eq_false hbig
  rw [hd]
  clear hd
  go_wp2_with fail
  refine (HNW.out w2 HB2.out (by omega)).mono ?_
  rintro e w3 ⟨⟨M, rfl, hM, hmod⟩, hb3⟩
  obtain ⟨F, hF⟩ : ∃ F, frs L C = F := ⟨_, rfl⟩
  have HFL := Lib.hid (show F.length ≤ 72 from Nat.le_trans (hF ▸ frs_length L C) (by omega))
  have HME := Lib.hid (show ∀ x, x ∈ F → x < C from fun x h => by rw [← hF] at h; exact (frs_mem.1 h).1)
  rw [hF] at hmod HCS
  obtain ⟨X, hX⟩ : ∃ X, crd L C C = X := ⟨_, rfl⟩
  rw [hX] at hmod HCS
  have HCL := Lib.hid (show C ≤ 72 by omega)
  have HCS := Lib.hid (HCS.out (by omega))
  have HXS := Lib.hid (show ∀ j f, j < C → f ∈ F → hq (X j f) ≤ 10000 from fun j f hj hf => Nat.le_trans (HCS.out j f hj hf) (by omega))
  have HB3 := Lib.hid (HB2.out.trans (hb3.mono HB2.out.size))
  have X3 := HX2.out.below_ hb3 HX2.out.lt
  have HMO3 := Lib.hid (fun W (hb : Below w3.heap.size w3 W) => hmod.keep (Nat.le_refl _) hb)
  clear x0 x1 x2 hM hmod hb3 hF hX HNW HLA HT HX2 hbig
  have x0 := X3.at_ 0 rfl
  have x1 := X3.at_ 1 rfl
  have x2 := X3.at_ 2 rfl
  clear X3
  go_wp2_with fail
  refine (HMC.out w3 HB3.out).mono ?_
  rintro e w4 ⟨rfl, hb4⟩
  have HB4 := Lib.hid (HB3.out.trans (hb4.mono HB3.out.size))
  have HK4 := Lib.hid hb4
  clear x0 x1 x2 hb4 HMC
  go_wp2_with fail
  refine (HFA.out w4 HB4.out C (by have := HCL.out; omega)).mono ?_
  rintro e w5 ⟨⟨vx, rfl, hox⟩, hb5⟩
  have HB5 := Lib.hid (HB4.out.trans (hb5.mono HB4.out.size))
  have HK5 := Lib.hid (HK4.out.trans (hb5.mono HK4.out.size))
  obtain ⟨gx, cx, rfl, hgx0, hrx⟩ := hox.row.resolve_left (fun h => by have := HCP.out; omega)
  have HRX := Lib.hid hrx
  clear hox hb5 hgx0 hrx HFA
  go_wp2_with fail
  refine (HFB.out w5 HB5.out C (by have := HCL.out; omega)).mono ?_
  rintro e w6 ⟨⟨vy, rfl, hoy⟩, hb6⟩
  have HB6 := Lib.hid (HB5.out.trans (hb6.mono HB5.out.size))
  have HK6 := Lib.hid (HK5.out.trans (hb6.mono HK5.out.size))
  have HRX6 := Lib.hid (HRX.out.keep (fun _ => IsQ.solid _) hb6)
  obtain ⟨gy, cy, rfl, hgy0, hry⟩ := hoy.row.resolve_left (fun h => by have := HCP.out; omega)
  have HRY6 := Lib.hid hry
  obtain ⟨B0, hB0⟩ : ∃ B, w6.heap.size = B := ⟨_, rfl⟩
  have HG6 := Lib.hid (show gx < B0 ∧ gy < B0 from ⟨hB0 ▸ HRX6.out.sts.1, hB0 ▸ HRY6.out.sts.1⟩)
  have HB0 := Lib.hid hB0
  have HO6 := Lib.hid (OwnQ.nil (fun j => IsQ (U j - 3 * V j)) w6 B0)
  clear hoy hb6 hgy0 hry HFB HRX HK4 HK5 HB4 hB0
  have hCi : C ≤ 72 := HCL.out
  go_wp2_with fail
  go_loopw [13, 14] (fun v ii wr => ∃ k : Nat, k ≤ C ∧ ii = .int .i64 k ∧ OwnQ (fun j => IsQ (U j - 3 * V j)) wr B0 v k ∧ Below B0 w6 wr ∧ I32 w6 wr) (fun _ ii _ => C - (intOf ii).toNat)
  case atStart => exact ⟨0, Nat.zero_le _, rfl, HO6.out, Below.refl _ _, I32.refl _⟩
  case round =>
    obtain ⟨k, hk, rfl, ho, hb7, h32⟩ := hrel
    obtain ⟨we, rfl⟩ : ∃ we : World, we = wr := ⟨_, rfl⟩
    have HB7 := Lib.hid hb7
    have H32 := Lib.hid h32
    have HBS := Lib.hid (show B0 ≤ we.heap.size from HB0.out ▸ hb7.size)
    by_cases hlt : k < C
    · have hki : (k : Int) < (C : Int) := by omega
      obtain ⟨xs, hKO, hXO⟩ := ho
      have HKO := Lib.hid (fun w1 (hb : Below we.heap.size we w1) => hKO.keep hb)
      have HXO := Lib.hid (fun w1 (hb : Below we.heap.size we w1) j (hj : j < k) => (hXO j hj).i32 (IsQ.solid _) (I32.below hb))
      obtain ⟨s1, p1, n1, c1, t1, q1, m1, d1, a0, a1, a2, a3, hqx⟩ := QE.next (HRX6.out.val k hlt) HG6.out.1 h32 hb7
      obtain ⟨s2, p2, n2, c2, t2, q2, m2, d2, b0, b1, b2, b3, hqy⟩ := QE.next (HRY6.out.val k hlt) HG6.out.2 h32 hb7
      have HQX := Lib.hid (show Qs we s1 p1 n1 c1 t1 q1 m1 d1 (U k) from hqx)
      have HQY := Lib.hid (show Qs we s2 p2 n2 c2 t2 q2 m2 d2 (V k) from hqy)
      have HS1 := Lib.hid (show ∀ W, Below B0 we W → (W.cell? ⟨gx, k * 4, none⟩ = some (.bool s1) ∧ W.cell? ⟨gx, k * 4 + 1, none⟩ = some (.slice p1 n1 c1) ∧ W.cell? ⟨gx, k * 4 + 2, none⟩ = some (.bool t1) ∧ W.cell? ⟨gx, k * 4 + 3, none⟩ = some (.slice q1 m1 d1) ∧ W.cell? ⟨gy, k * 4, none⟩ = some (.bool s2) ∧ W.cell? ⟨gy, k * 4 + 1, none⟩ = some (.slice p2 n2 c2) ∧ W.cell? ⟨gy, k * 4 + 2, none⟩ = some (.bool t2) ∧ W.cell? ⟨gy, k * 4 + 3, none⟩ = some (.slice q2 m2 d2)) from fun W hb => ⟨(hb.cell (p := ⟨gx, k * 4, none⟩) HG6.out.1).trans a0, (hb.cell (p := ⟨gx, k * 4 + 1, none⟩) HG6.out.1).trans a1, (hb.cell (p := ⟨gx, k * 4 + 2, none⟩) HG6.out.1).trans a2, (hb.cell (p := ⟨gx, k * 4 + 3, none⟩) HG6.out.1).trans a3, (hb.cell (p := ⟨gy, k * 4, none⟩) HG6.out.2).trans b0, (hb.cell (p := ⟨gy, k * 4 + 1, none⟩) HG6.out.2).trans b1, (hb.cell (p := ⟨gy, k * 4 + 2, none⟩) HG6.out.2).trans b2, (hb.cell (p := ⟨gy, k * 4 + 3, none⟩) HG6.out.2).trans b3⟩)
      have hS0 := HS1.out _ (Below.refl _ we).drew
      have HK1 := Lib.hid (show ∀ wb, Below we.drew.heap.size we.drew wb → Below we.heap.size we wb from fun wb hb => (Below.refl _ we).drew.trans hb)
      have HK2 := Lib.hid (show ∀ wa wb, Below we.heap.size we wa → Below wa.heap.size wa wb → Below we.heap.size we wb from fun wa wb h1 h2 => h1.trans (h2.mono h1.size))
      have HQ3 := Lib.hid (fun W => c_Q 3 W (by omega) (by omega))
      have HMU := Lib.hid (fun W s p n c t q m d (hb : Below we.heap.size we W) (hq : Qs W s p n c t q m d ((3 : Int) : Rat)) => c_qMulQ s p n c t q m d ((3 : Int) : Rat) s2 p2 n2 c2 t2 q2 m2 d2 (V k) W hq (HQY.out.keep hb) (by decide +kernel) (by have := HVS.out k; omega))
      have HSU := Lib.hid (fun W s p n c t q m d (hb : Below we.heap.size we W) (hq3 : Qs W s p n c t q m d (((3 : Int) : Rat) * V k)) => c_qSubQ s1 p1 n1 c1 t1 q1 m1 d1 (U k) s p n c t q m d (((3 : Int) : Rat) * V k) W (HQX.out.keep hb) hq3 (by have := HUS.out k; omega) (by have h1 := hq_mul ((3 : Int) : Rat) (V k); have h2 := HVS.out k; have h3 : hq ((3 : Int) : Rat) ≤ 1 := (by decide +kernel); omega))
      clear hb7 h32 hKO hXO hqx hqy a0 a1 a2 a3 b0 b1 b2 b3 HQX HQY
      have M1 : True := trivial
      go_upto_region 14 with (fail)
      go_region_held3 (fun W => W.cell? ⟨gx, k * 4, none⟩ = some (.bool s1) ∧ W.cell? ⟨gx, k * 4 + 1, none⟩ = some (.slice p1 n1 c1) ∧ W.cell? ⟨gx, k * 4 + 2, none⟩ = some (.bool t1) ∧ W.cell? ⟨gx, k * 4 + 3, none⟩ = some (.slice q1 m1 d1) ∧ W.cell? ⟨gy, k * 4, none⟩ = some (.bool s2) ∧ W.cell? ⟨gy, k * 4 + 1, none⟩ = some (.slice p2 n2 c2) ∧ W.cell? ⟨gy, k * 4 + 2, none⟩ = some (.bool t2) ∧ W.cell? ⟨gy, k * 4 + 3, none⟩ = some (.slice q2 m2 d2))
        (first | with_reducible exact hS0 | exact HS1.out _ HB9.out | exact HS1.out _ (HBA.out.mono HBS.out) | exact HS1.out _ ((HBA.out.mono HBS.out).alloc (Nat.le_trans HBS.out HBA.out.size) _) | (exfalso; assumption))
        (first
          | (refine step_app2 NotInt rfl (.tmp 51) (.tmp 63) _ 35 rfl Tryz.underlying24 ratInfo rfl (by decide) B0 k u13 xs [.bool s6, .slice p6 n6 c6, .bool t6, .slice q6 m6 d6] rfl (HKO.out _ HBA.out) rfl rfl (one4 _ _ _ _ _ _ _ _) (by omega) (by omega) (Nat.le_trans HBS.out HBA.out.size) (ni4 _ _ _ _ _ _ _ _) niz ?_; intro v9 w9 hown9 hgr9 hat9; have HO9 := Lib.hid (OwnQ.push (W := _) (fun _ => IsQ.solid _) (HKO.out _ HBA.out) (HXO.out _ HBA.out) hq6' hown9 hgr9); have H329 := Lib.hid ((H32.out.trans (I32.below HBA.out)).trans (I32.grown (K := NotInt) (fun x => not_int32 x) (HKO.out _ HBA.out).2 hgr9)); have HB9 := Lib.hid (own_below (HBA.out.mono HBS.out) (HKO.out _ HBA.out).1 hgr9 (Nat.le_refl _) (Nat.le_trans HBS.out HBA.out.size)); clear hown9 hgr9 hat9)
          | (go_at_call 39; (with_reducible refine (HQ3.out _).mono ?_); rintro e w7 ⟨⟨s4, p4, n4, c4, t4, q4, m4, d4, rfl, hq4⟩, hb7⟩; have HBA := Lib.hid (HK1.out _ hb7))
          | (go_at_call 38; (with_reducible refine (HMU.out _ _ _ _ _ _ _ _ _ HBA.out hq4).mono ?_); rintro e w8 ⟨⟨s5, p5, n5, c5, t5, q5, m5, d5, rfl, hq5⟩, hb8⟩; have HBA := Lib.hid (HK2.out _ _ HBA.out hb8))
          | (go_at_call 37; (with_reducible refine (HSU.out _ _ _ _ _ _ _ _ _ HBA.out hq5).mono ?_); rintro e w9 ⟨⟨s6, p6, n6, c6, t6, q6, m6, d6, rfl, hq6⟩, hb9⟩; have hq6' : IsQ (U k - 3 * V k) w9 s6 p6 n6 c6 t6 q6 m6 d6 := hq6; have HBA := Lib.hid (HK2.out _ _ HBA.out hb9)))
      all_goals go_wp2
      all_goals go_roundw
      all_goals first
        | exact ⟨k + 1, by omega, by go_num, HO9.out, HB7.out.trans HB9.out, H329.out⟩
        | (simp [intOf]; omega)
    · obtain rfl : C = k := by omega
      have HKS := Lib.hid (show Below w3.heap.size w3 we from HK6.out.trans (hb7.mono (HB0.out ▸ HK6.out.size)))
      have HBW := Lib.hid (show Below w.heap.size w we from HB6.out.trans (hb7.mono (HB0.out ▸ HB6.out.size)))
      have HQX := Lib.hid (show QL (fun j => IsQ (U j)) we (.slice (some ⟨gx, 0, none⟩) C cx) C from .inr ⟨gx, 0, cx, rfl, Nat.lt_of_lt_of_le HG6.out.1 HBS.out, fun j hj => by rw [Nat.zero_add]; exact QE.next (HRX6.out.val j hj) HG6.out.1 h32 hb7⟩)
      have HQY := Lib.hid (show QL (fun j => IsQ (V j)) we (.slice (some ⟨gy, 0, none⟩) C cy) C from .inr ⟨gy, 0, cy, rfl, Nat.lt_of_lt_of_le HG6.out.2 HBS.out, fun j hj => by rw [Nat.zero_add]; exact QE.next (HRY6.out.val j hj) HG6.out.2 h32 hb7⟩)
      obtain ⟨gs, cs, rfl, _, hrs⟩ := ho.row.resolve_left (fun h => by have := HCP.out; omega)
      have HQS := Lib.hid (hrs.ql cs)
      have hw3 := HKS.out.size
      clear ho hb7 h32 hrs HRX6 HRY6 HO6 HB6 HK6 HBS HB7 H32
      go_wp2_with fail
      refine (c_Vector M w3.heap.size n ((wt : Int) + 2) D F C X _ U we (HMO3.out _ HKS.out) hw3 HQX.out HCP.out (by omega) (by have := HFL.out; omega) (fun j _ => by have := HUS.out j; omega) HXS.out).mono ?_
      rintro e wf ⟨⟨gu, rfl, _, hru⟩, hbf⟩
      have HKF := Lib.hid (HKS.out.trans (hbf.mono HKS.out.size))
      have HBF := Lib.hid (HBW.out.trans (hbf.mono HBW.out.size))
      have HQYF := Lib.hid (HQY.out.keep (fun _ => IsQ.solid _) hbf)
      have HQSF := Lib.hid (HQS.out.keep (fun _ => IsQ.solid _) hbf)
      have HRUF := Lib.hid hru
      have hw3f := HKF.out.size
      clear hbf hru HQX HQY HQS HKS HBW hw3
      go_wp2_with fail
      refine (c_Vector M w3.heap.size n ((wt : Int) + 2) D F C X _ V wf (HMO3.out _ HKF.out) hw3f HQYF.out HCP.out (by omega) (by have := HFL.out; omega) (fun j _ => by have := HVS.out j; omega) HXS.out).mono ?_
      rintro e wg ⟨⟨gv, rfl, _, hrv⟩, hbg⟩
      have HKG := Lib.hid (HKF.out.trans (hbg.mono HKF.out.size))
      have HBG := Lib.hid (HBF.out.trans (hbg.mono HBF.out.size))
      have HQSG := Lib.hid (HQSF.out.keep (fun _ => IsQ.solid _) hbg)
      have HRUG := Lib.hid (HRUF.out.keep (fun _ => IsQ.solid _) hbg)
      have HRVG := Lib.hid hrv
      have hw3g := HKG.out.size
      clear hbg hrv HQYF HQSF HKF HBF HRUF hw3f
      go_wp2_with fail
      refine (c_Vector M w3.heap.size n ((wt : Int) + 2) D F C X _ (fun j => U j - 3 * V j) wg (HMO3.out _ HKG.out) hw3g HQSG.out HCP.out (by omega) (by have := HFL.out; omega) (fun j _ => by
        have h1 := HUS.out j
        have h2 := hq_mul 3 (V j)
        have h3 := HVS.out j
        have h4 := hq_add (U j) (-(3 * V j))
        have h5 : hq (3 : Rat) ≤ 1 := by decide +kernel
        rw [hq_neg, ← Rat.sub_eq_add_neg] at h4
        omega) HXS.out).mono ?_
      rintro e wh ⟨⟨gw, rfl, _, hrw⟩, hbh⟩
      have HKH := Lib.hid (HKG.out.trans (hbh.mono HKG.out.size))
      have HBH := Lib.hid (HBG.out.trans (hbh.mono HBG.out.size))
      have HRUH := Lib.hid (HRUG.out.keep (fun _ => IsQ.solid _) hbh)
      have HRVH := Lib.hid (HRVG.out.keep (fun _ => IsQ.solid _) hbh)
      have HRWH := Lib.hid hrw
      have HSZ := Lib.hid (show ∀ (T : Nat → Rat) f, (∀ j, hq (T j) ≤ 4) → f < F.length → hq (vecS T X C (F.getD f 0)) ≤ 1000000 from fun T f hT hf => by
        have h1 := vecS_size (V := T) (X := X) (A := 4) (B := 10000) (f := F.getD f 0) C (fun j _ => hT j) (fun j hj => HXS.out j _ hj (by rw [List.getD_eq_getElem?_getD, List.getElem?_eq_getElem hf]; exact List.getElem_mem hf))
        have h2 : C * (4 + 10000 + 1) ≤ 72 * (4 + 10000 + 1) := Nat.mul_le_mul_right _ hCi
        omega)
      clear hbh hrw HQSG HKG HBG HRUG HRVG hw3g
      go_wp2_with fail
      refine (c_Dim M w3.heap.size n ((wt : Int) + 2) D F C X wh (HMO3.out _ HKH.out)).mono ?_
      rintro e w' ⟨rfl, hw'⟩
      obtain rfl : wh = w' := hw'.symm
      go_wp2_with fail
      go_loopw [21] (fun ii wr => ∃ k : Nat, k ≤ F.length ∧ ii = .int .i64 k ∧ Below wh.heap.size wh wr) (fun ii _ => F.length - (intOf ii).toNat)
      case atStart => exact ⟨0, Nat.zero_le _, rfl, Below.refl _ _⟩
      case round =>
        obtain ⟨k, hk, rfl, hbe⟩ := hrel
        obtain ⟨we, rfl⟩ : ∃ we : World, we = wr := ⟨_, rfl⟩
        have HBE := Lib.hid hbe
        have hflb : F.length ≤ 72 := HFL.out
        by_cases hlt : k < F.length
        · have hki : (k : Int) < (F.length : Int) := by omega
          obtain ⟨s1, p1, n1, c1, t1, q1, m1, d1, a0, a1, a2, a3, hqx⟩ := (HRUH.out.val k hlt).keep (IsQ.solid _) hbe
          obtain ⟨s2, p2, n2, c2, t2, q2, m2, d2, b0, b1, b2, b3, hqy⟩ := (HRVH.out.val k hlt).keep (IsQ.solid _) hbe
          obtain ⟨s3, p3, n3, c3, t3, q3, m3, d3, e0, e1, e2, e3, hqz⟩ := (HRWH.out.val k hlt).keep (IsQ.solid _) hbe
          obtain ⟨x, hx⟩ : ∃ x, vecS U X C (F.getD k 0) = x := ⟨_, rfl⟩
          obtain ⟨y, hy⟩ : ∃ y, vecS V X C (F.getD k 0) = y := ⟨_, rfl⟩
          have hz : vecS (fun j => U j - 3 * V j) X C (F.getD k 0) = x - ((3 : Int) : Rat) * y := by rw [vecS_lin, hx, hy]; rfl
          have HSX := Lib.hid (show hq x ≤ 1000000 from hx ▸ HSZ.out U k (fun j => by have := HUS.out j; omega) hlt)
          have HSY := Lib.hid (show hq y ≤ 1000000 from hy ▸ HSZ.out V k (fun j => by have := HVS.out j; omega) hlt)
          have HQX := Lib.hid (show Qs we s1 p1 n1 c1 t1 q1 m1 d1 x from hx ▸ hqx)
          have HQY := Lib.hid (show Qs we s2 p2 n2 c2 t2 q2 m2 d2 y from hy ▸ hqy)
          have HQZ := Lib.hid (show Qs we s3 p3 n3 c3 t3 q3 m3 d3 (x - ((3 : Int) : Rat) * y) from hz ▸ hqz)
          have HS1 := Lib.hid (show ∀ W, Below we.heap.size we W → (W.cell? ⟨gw, k * 4, none⟩ = some (.bool s3) ∧ W.cell? ⟨gw, k * 4 + 1, none⟩ = some (.slice p3 n3 c3) ∧ W.cell? ⟨gw, k * 4 + 2, none⟩ = some (.bool t3) ∧ W.cell? ⟨gw, k * 4 + 3, none⟩ = some (.slice q3 m3 d3) ∧ W.cell? ⟨gu, k * 4, none⟩ = some (.bool s1) ∧ W.cell? ⟨gu, k * 4 + 1, none⟩ = some (.slice p1 n1 c1) ∧ W.cell? ⟨gu, k * 4 + 2, none⟩ = some (.bool t1) ∧ W.cell? ⟨gu, k * 4 + 3, none⟩ = some (.slice q1 m1 d1) ∧ W.cell? ⟨gv, k * 4, none⟩ = some (.bool s2) ∧ W.cell? ⟨gv, k * 4 + 1, none⟩ = some (.slice p2 n2 c2) ∧ W.cell? ⟨gv, k * 4 + 2, none⟩ = some (.bool t2) ∧ W.cell? ⟨gv, k * 4 + 3, none⟩ = some (.slice q2 m2 d2)) from fun W hb => ⟨cell_next hb e0, cell_next hb e1, cell_next hb e2, cell_next hb e3, cell_next hb a0, cell_next hb a1, cell_next hb a2, cell_next hb a3, cell_next hb b0, cell_next hb b1, cell_next hb b2, cell_next hb b3⟩)
          have hS0 := HS1.out _ (Below.refl _ we).drew
          have HK1 := Lib.hid (show ∀ wb, Below we.drew.heap.size we.drew wb → Below we.heap.size we wb from fun wb hb => (Below.refl _ we).drew.trans hb)
          have HK2 := Lib.hid (show ∀ wa wb, Below we.heap.size we wa → Below wa.heap.size wa wb → Below we.heap.size we wb from fun wa wb h1 h2 => h1.trans (h2.mono h1.size))
          have HQ3 := Lib.hid (fun W => c_Q 3 W (by omega) (by omega))
          have HMU := Lib.hid (fun W s p n c t q m d (hb : Below we.heap.size we W) (hq : Qs W s p n c t q m d ((3 : Int) : Rat)) => c_qMulQ s p n c t q m d ((3 : Int) : Rat) s2 p2 n2 c2 t2 q2 m2 d2 y W hq (HQY.out.keep hb) (by decide +kernel) (by have := HSY.out; omega))
          have HSU := Lib.hid (fun W s p n c t q m d (hb : Below we.heap.size we W) (hq3 : Qs W s p n c t q m d (((3 : Int) : Rat) * y)) => c_qSubQ s1 p1 n1 c1 t1 q1 m1 d1 x s p n c t q m d (((3 : Int) : Rat) * y) W (HQX.out.keep hb) hq3 (by have := HSX.out; omega) (by have h1 := hq_mul ((3 : Int) : Rat) y; have h2 := HSY.out; have h3 : hq ((3 : Int) : Rat) ≤ 1 := (by decide +kernel); omega))
          have HSR := Lib.hid (fun W s p n c t q m d (hb : Below we.heap.size we W) (hq7 : Qs W s p n c t q m d (x - ((3 : Int) : Rat) * y)) => c_SameRat s3 p3 n3 c3 t3 q3 m3 d3 (x - ((3 : Int) : Rat) * y) s p n c t q m d (x - ((3 : Int) : Rat) * y) W (HQZ.out.keep hb) hq7 (by
            have h1 := hq_mul ((3 : Int) : Rat) y
            have h2 := HSY.out
            have h3 : hq ((3 : Int) : Rat) ≤ 1 := by decide +kernel
            have h4 := hq_add x (-(((3 : Int) : Rat) * y))
            have h5 := HSX.out
            rw [hq_neg, ← Rat.sub_eq_add_neg] at h4
            omega))
          simp only [decide_true] at HSR
          clear hbe hqx hqy hqz a0 a1 a2 a3 b0 b1 b2 b3 e0 e1 e2 e3 hx hy hz
          have M1 : True := trivial
          go_upto_region 23 with (fail)
          go_region_held3 (fun W => W.cell? ⟨gw, k * 4, none⟩ = some (.bool s3) ∧ W.cell? ⟨gw, k * 4 + 1, none⟩ = some (.slice p3 n3 c3) ∧ W.cell? ⟨gw, k * 4 + 2, none⟩ = some (.bool t3) ∧ W.cell? ⟨gw, k * 4 + 3, none⟩ = some (.slice q3 m3 d3) ∧ W.cell? ⟨gu, k * 4, none⟩ = some (.bool s1) ∧ W.cell? ⟨gu, k * 4 + 1, none⟩ = some (.slice p1 n1 c1) ∧ W.cell? ⟨gu, k * 4 + 2, none⟩ = some (.bool t1) ∧ W.cell? ⟨gu, k * 4 + 3, none⟩ = some (.slice q1 m1 d1) ∧ W.cell? ⟨gv, k * 4, none⟩ = some (.bool s2) ∧ W.cell? ⟨gv, k * 4 + 1, none⟩ = some (.slice p2 n2 c2) ∧ W.cell? ⟨gv, k * 4 + 2, none⟩ = some (.bool t2) ∧ W.cell? ⟨gv, k * 4 + 3, none⟩ = some (.slice q2 m2 d2))
            (first | with_reducible exact hS0 | with_reducible exact HS1.out _ HBA.out | (exfalso; assumption))
            (first
              | (go_at_call 39; (with_reducible refine (HQ3.out _).mono ?_); rintro e w7 ⟨⟨s4, p4, n4, c4, t4, q4, m4, d4, rfl, hq4⟩, hb7⟩; have HBA := Lib.hid (HK1.out _ hb7))
              | (go_at_call 38; (with_reducible refine (HMU.out _ _ _ _ _ _ _ _ _ HBA.out hq4).mono ?_); rintro e w8 ⟨⟨s5, p5, n5, c5, t5, q5, m5, d5, rfl, hq5⟩, hb8⟩; have HBA := Lib.hid (HK2.out _ _ HBA.out hb8))
              | (go_at_call 37; (with_reducible refine (HSU.out _ _ _ _ _ _ _ _ _ HBA.out hq5).mono ?_); rintro e w9 ⟨⟨s6, p6, n6, c6, t6, q6, m6, d6, rfl, hq6⟩, hb9⟩; have HBA := Lib.hid (HK2.out _ _ HBA.out hb9))
              | (go_at_call 40; (with_reducible refine (HSR.out _ _ _ _ _ _ _ _ _ HBA.out hq6).mono ?_); rintro e w10 ⟨rfl, hb10⟩; have HBA := Lib.hid (HK2.out _ _ HBA.out hb10)))
          all_goals go_wp2
          all_goals go_roundw
          all_goals first
            | exact ⟨k + 1, by omega, by go_num, HBE.out.trans (HBA.out.mono HBE.out.size)⟩
            | (simp [intOf]; omega)
        · obtain rfl : F.length = k := by omega
          clear hbe
          go_wp2
          go_ret
          exact ⟨rfl, HBH.out.trans (HBE.out.mono HBH.out.size)⟩
theorem c_lawLin (N k D : Int) (pa : Option Addr) (la ca : Nat) (xa : Nat → Int) (pb : Option Addr) (lb cb : Nat) (xb : Nat → Int) (w : World) (hT : Tab w)
    (hpa : ∀ k, k < la → ∃ g o, pa = some ⟨g, o, none⟩ ∧ g < w.heap.size ∧ w.cell? ⟨g, o + k, none⟩ = some (.int .i8 (xa k))) (hxa : ∀ k, k < la → -128 ≤ xa k ∧ xa k ≤ 127)
    (hpb : ∀ k, k < lb → ∃ g o, pb = some ⟨g, o, none⟩ ∧ g < w.heap.size ∧ w.cell? ⟨g, o + k, none⟩ = some (.int .i8 (xb k))) (hxb : ∀ k, k < lb → -128 ≤ xb k ∧ xb k ≤ 127) :
    Calls Tryz.prog 8 #[.agg #[.int .i64 N, .int .i64 k, .int .i64 D], .slice pa la ca, .slice pb lb cb] w fun e w' => e = .returned (.bool true) ∧ Below w.heap.size w w' := by
  by_cases hck : Pl.check N k D = 0
  · obtain ⟨h1, h2, h3, h4, _, _⟩ := check_zero hck
    obtain ⟨n, rfl⟩ : ∃ n : Nat, N = n := ⟨N.toNat, by omega⟩
    obtain ⟨wt, rfl⟩ : ∃ wt : Nat, k = (wt : Int) + 2 := ⟨(k - 2).toNat, by omega⟩
    exact c_lawLin_ok n wt D pa la ca xa pb lb cb xb w hT hck hpa hxa hpb hxb
  · exact c_lawLin_bad N k D _ _ w hT hck
end Go.Proofs.YthikonjlgljikaaGreatDoor
