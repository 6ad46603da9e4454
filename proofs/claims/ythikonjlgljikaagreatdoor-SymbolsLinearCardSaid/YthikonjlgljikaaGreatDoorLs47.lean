/- Contract of the law's fractions. Contract of Vector: the coordinates of a combination. -/
import Derived.Test.YthikonjlgljikaaGreatDoorLs46
import Derived.Test.YthikonjlgljikaaGreatDoorLs37
namespace Go.Proofs.YthikonjlgljikaaGreatDoor
open Go.RowKit Eli

/-- The law's fraction number k of a list of ln small numbers. -/
def frU (x : Nat → Int) (ln k : Nat) : Rat := Rat.divInt (if k < ln then x k else 0) ((1 + k % 3 : Nat) : Int)
theorem frU_size {x : Nat → Int} {ln k : Nat} (hx : ∀ k, k < ln → -128 ≤ x k ∧ x k ≤ 127) : hq (frU x ln k) ≤ 1 := by
  refine hq_over (by omega) (nd_le.2 ?_) (nd_le.2 ?_)
  · split
    · rename_i h
      have := hx k h
      omega
    · decide
  · omega
set_option maxHeartbeats 2000000 in
set_option maxRecDepth 100000 in
theorem c_fractions (p : Option Addr) (ln c : Nat) (x : Nat → Int) (n : Nat) (w : World) (hp : ∀ k, k < ln → ∃ g o, p = some ⟨g, o, none⟩ ∧ g < w.heap.size ∧ w.cell? ⟨g, o + k, none⟩ = some (.int .i8 (x k))) (hx : ∀ k, k < ln → -128 ≤ x k ∧ x k ≤ 127) (hn : n ≤ 1000) :
    Calls Tryz.prog 30 #[.slice p ln c, .int .i64 n] w fun e w' => (∃ v', e = .returned v' ∧ OwnQ (fun j => IsQ (frU x ln j)) w' w.heap.size v' n) ∧ Below w.heap.size w w' := by
  have HN := Lib.hid (OwnQ.nil (fun j => IsQ (frU x ln j)) w w.heap.size)
  have HP := Lib.hid hp
  have HX := Lib.hid hx
  clear hp hx
  go_enter Tryz.func30, Tryz.ntmps30
  go_wp2
  go_loopw [5, 6] (fun v i wr => ∃ k : Nat, k ≤ n ∧ i = .int .i64 k ∧ OwnQ (fun j => IsQ (frU x ln j)) wr w.heap.size v k ∧ Below w.heap.size w wr) (fun _ i _ => n - (intOf i).toNat)
  case atStart => exact ⟨0, Nat.zero_le _, rfl, HN.out, Below.refl _ _⟩
  case round =>
    obtain ⟨k, hk, rfl, ho, hb⟩ := hrel
    have HO := Lib.hid ho
    have HB := Lib.hid hb
    clear ho HN
    by_cases hlt : k < n
    · obtain ⟨r, hr⟩ : ∃ r, k % 3 = r := ⟨_, rfl⟩
      have hr3 : r < 3 := by omega
      obtain ⟨d, hd⟩ : ∃ d, 1 + r = d := ⟨_, rfl⟩
      have e1 : Int.tmod (k : Int) 3 = (r : Nat) := by rw [Int.tmod_eq_emod_of_nonneg (by omega)]; omega
      have v0 : IntKind.i64.wrap (r : Int) = (r : Nat) := IntWalk.i64_in _ (by omega)
      have e2 : (1 : Int) + (r : Int) = (d : Nat) := by omega
      have v1 : IntKind.i64.wrap (d : Int) = (d : Nat) := IntWalk.i64_in _ (by omega)
      have HD := Lib.hid (show 1 + k % 3 = d by omega)
      have hd1 : 0 < d ∧ d ≤ 3 := by omega
      have HD1 := Lib.hid hd1
      have hki : (k : Int) < (n : Int) := by omega
      by_cases hkl : k < ln
      · obtain ⟨g, o, rfl, hg, hc⟩ := HP.out k hkl
        obtain ⟨z, hz⟩ : ∃ z, x k = z := ⟨_, rfl⟩
        have hzb := HX.out k hkl
        rw [hz] at hc hzb
        have HZ := Lib.hid (show frU x ln k = Rat.divInt z d by rw [frU, if_pos hkl, hz, HD.out])
        have a0 : wr.cell? ⟨g, o + k, none⟩ = some (.int .i8 z) := (hb.cell (p := ⟨g, o + k, none⟩) hg).trans hc
        have v2 : IntKind.i64.wrap z = z := IntWalk.i64_in _ (by omega)
        have hkli : (k : Int) < (ln : Int) := by omega
        have HC := Lib.hid (c_Frac z d wr (by omega) (by omega) (by omega) (by omega))
        clear hb hz hc hd hr hd1 hzb
        go_wp2_with fail
        refine HC.out.mono ?_
        rintro e w2 ⟨⟨s, p1, i1, c1, t, q1, m, d1, rfl, hq⟩, hb2⟩
        obtain ⟨xs, hK, hX⟩ := HO.out.keep (fun _ => IsQ.solid _) hb2
        have HK := Lib.hid hK
        have HX2 := Lib.hid hX
        have HQ := Lib.hid (show IsQ (frU x ln k) w2 s p1 i1 c1 t q1 m d1 by rw [HZ.out]; exact hq)
        have HB1 := Lib.hid (HB.out.trans (hb2.mono HB.out.size))
        clear hK hX hq hb2 HO HB a0 HC
        go_wp2_with (at_builtin; refine wpl_app2 NotInt rfl (.tmp 22) (.tmp 28) _ 35 rfl Tryz.underlying24 ratInfo rfl (by decide) w.heap.size k u5 xs [.bool s, .slice p1 i1 c1, .bool t, .slice q1 m d1] rfl HK.out rfl rfl (one4 _ _ _ _ _ _ _ _) (by omega) (by omega) HB1.out.size (ni4 _ _ _ _ _ _ _ _) niz ?_; intro v' w' hown' hgr hat; have HO2 := Lib.hid (OwnQ.push (W := _) (fun _ => IsQ.solid _) HK.out HX2.out HQ.out hown' hgr); have HB2 := Lib.hid (own_below HB1.out HK.out.1 hgr (Nat.le_refl _) HB1.out.size); clear hown' hgr hat)
        go_roundw
        case rel => exact ⟨k + 1, by omega, by go_num, HO2.out, HB2.out⟩
        case measure => simp [intOf]; omega
      · have HZ := Lib.hid (show frU x ln k = Rat.divInt 0 d by rw [frU, if_neg hkl, HD.out])
        have hkli : ¬ ((k : Int) < (ln : Int)) := by omega
        have HC := Lib.hid (c_Frac 0 d wr (by omega) (by omega) (by omega) (by omega))
        clear hb hd hr hd1
        go_wp2_with fail
        refine HC.out.mono ?_
        rintro e w2 ⟨⟨s, p1, i1, c1, t, q1, m, d1, rfl, hq⟩, hb2⟩
        obtain ⟨xs, hK, hX⟩ := HO.out.keep (fun _ => IsQ.solid _) hb2
        have HK := Lib.hid hK
        have HX2 := Lib.hid hX
        have HQ := Lib.hid (show IsQ (frU x ln k) w2 s p1 i1 c1 t q1 m d1 by rw [HZ.out]; exact hq)
        have HB1 := Lib.hid (HB.out.trans (hb2.mono HB.out.size))
        clear hK hX hq hb2 HO HB HC
        go_wp2_with (at_builtin; refine wpl_app2 NotInt rfl (.tmp 22) (.tmp 28) _ 35 rfl Tryz.underlying24 ratInfo rfl (by decide) w.heap.size k u5 xs [.bool s, .slice p1 i1 c1, .bool t, .slice q1 m d1] rfl HK.out rfl rfl (one4 _ _ _ _ _ _ _ _) (by omega) (by omega) HB1.out.size (ni4 _ _ _ _ _ _ _ _) niz ?_; intro v' w' hown' hgr hat; have HO2 := Lib.hid (OwnQ.push (W := _) (fun _ => IsQ.solid _) HK.out HX2.out HQ.out hown' hgr); have HB2 := Lib.hid (own_below HB1.out HK.out.1 hgr (Nat.le_refl _) HB1.out.size); clear hown' hgr hat)
        go_roundw
        case rel => exact ⟨k + 1, by omega, by go_num, HO2.out, HB2.out⟩
        case measure => simp [intOf]; omega
    · obtain rfl : k = n := by omega
      clear hb
      go_wp2
      go_ret
      exact ⟨⟨_, rfl, HO.out⟩, HB.out⟩
end Go.Proofs.YthikonjlgljikaaGreatDoor
namespace Go.Proofs.YthikonjlgljikaaGreatDoor
open Go.RowKit Eli

/-- The coordinates of the first k symbols of a combination. -/
def vecS (V : Nat → Rat) (X : Nat → Nat → Rat) (k f : Nat) : Rat := sumQ (fun n => V n * X n f) k
theorem vecS_zero (V : Nat → Rat) (X : Nat → Nat → Rat) (f : Nat) : vecS V X 0 f = 0 := rfl
theorem vecS_succ (V : Nat → Rat) (X : Nat → Nat → Rat) (k f : Nat) : vecS V X (k + 1) f = vecS V X k f + V k * X k f := rfl
theorem vecS_size {V : Nat → Rat} {X : Nat → Nat → Rat} {A B f : Nat} : ∀ (k : Nat), (∀ j, j < k → hq (V j) ≤ A) → (∀ j, j < k → hq (X j f) ≤ B) → hq (vecS V X k f) ≤ 1 + k * (A + B + 1)
  | 0, _, _ => by rw [vecS_zero, hq_zero]; omega
  | k + 1, h1, h2 => by
    rw [vecS_succ]
    have h3 := vecS_size k (fun j hj => h1 j (by omega)) (fun j hj => h2 j (by omega))
    have h4 := hq_add (vecS V X k f) (V k * X k f)
    have h5 := hq_mul (V k) (X k f)
    have h6 := h1 k (by omega)
    have h7 := h2 k (by omega)
    rw [Nat.add_mul, Nat.one_mul]
    omega
set_option maxHeartbeats 4000000 in
set_option maxRecDepth 100000 in
theorem c_Vector (M B : Nat) (N kk D : Int) (F : List Nat) (C : Nat) (X : Nat → Nat → Rat) (v : Value) (V : Nat → Rat) (w : World) (h : ModAt w M B N kk D F C X) (hB : B ≤ w.heap.size) (hv : QL (fun j => IsQ (V j)) w v C) (hC0 : 0 < C) (hC : C ≤ 1000) (hFl : F.length ≤ 1000)
    (hV : ∀ j, j < C → hq (V j) ≤ 10000) (hX : ∀ j f, j < C → f ∈ F → hq (X j f) ≤ 10000) :
    Calls Tryz.prog 31 #[.pointer (some ⟨M, 0, none⟩), v] w fun e w' => (∃ g, e = .returned (.tuple #[.slice (some ⟨g, 0, none⟩) F.length F.length, .int .i64 0]) ∧ w.heap.size ≤ g ∧ QRow (fun i => IsQ (vecS V X C (F.getD i 0))) w' g F.length F.length) ∧ Below w.heap.size w w' := by
  obtain ⟨gv, ov, cv, rfl, hgv, hve⟩ := hv.resolve_left (fun h => by omega)
  obtain ⟨vf, c3, h3⟩ := h.c3
  obtain ⟨pf, cf, rfl⟩ := h3.val
  obtain ⟨GR, c4, hGR, h4⟩ := h.c4
  have hML : M < w.heap.size := Nat.lt_of_lt_of_le h.lt hB
  have hGRL : GR < w.heap.size := Nat.lt_of_lt_of_le hGR hB
  have HMEM := Lib.hid (show ∀ i, i < F.length → F.getD i 0 ∈ F from fun i hi => by rw [List.getD_eq_getElem?_getD, List.getElem?_eq_getElem hi]; exact List.getElem_mem hi)
  have HR4 := Lib.hid (show ∀ j, j < C → ∃ g, w.cell? ⟨GR, j, none⟩ = some (.slice (some ⟨g, 0, none⟩) F.length F.length) ∧ g < w.heap.size ∧ ∀ i, i < F.length → QE (IsQ (X j (F.getD i 0))) w g (0 + i * 4) from fun j hj => by
    obtain ⟨g, e, hg, hq⟩ := h4 j hj
    exact ⟨g, e, Nat.lt_of_lt_of_le hg hB, fun i hi => by rw [Nat.zero_add]; exact hq i _ (by rw [List.getD_eq_getElem?_getD, List.getElem?_eq_getElem hi]; rfl)⟩)
  have HVE := Lib.hid hve
  have HV := Lib.hid hV
  have HX := Lib.hid hX
  have HC3 := Lib.hid c3
  have HC4 := Lib.hid c4
  have hmk := makeQ F.length (by omega)
  clear hV hX hve h4 h3 h hv hGR
  go_enter Tryz.func31, Tryz.ntmps31
  go_wp2_with fail
  have hrm := QRow.made (fun _ => IsQ 0) w F.length
  obtain ⟨w0, hw0⟩ : ∃ w0, w.alloc (.cells (madeCells #[.bool false, .slice none 0 0, .bool false, .slice none 0 0] (F.length * 4)) 35) = w0 := ⟨_, rfl⟩
  have hb0 : Below w.heap.size w w0 := hw0 ▸ (Below.refl _ _).alloc (Nat.le_refl _) _
  rw [hw0] at hrm ⊢
  have HRM := Lib.hid hrm
  have HB0 := Lib.hid hb0
  obtain ⟨G, hG⟩ : ∃ G, w.heap.size = G := ⟨_, rfl⟩
  rw [hG] at HRM HB0 hML hGRL hgv ⊢
  have HGE := Lib.hid hG
  clear hrm hb0 hw0 hG hmk c3 c4
  go_loopw [28] (fun ii wr => ∃ k : Nat, k ≤ F.length ∧ ii = .int .i64 k ∧ QRow (fun _ => IsQ 0) wr G F.length k ∧ Below G w wr) (fun ii _ => F.length - (intOf ii).toNat)
  case atStart => exact ⟨0, Nat.zero_le _, rfl, HRM.out, HB0.out⟩
  case round =>
    obtain ⟨k, hk, rfl, hrow, hb1⟩ := hrel
    obtain ⟨w1, rfl⟩ : ∃ w1 : World, w1 = wr := ⟨_, rfl⟩
    have HROW := Lib.hid hrow
    have HB1 := Lib.hid hb1
    clear hrow hb1 HRM HB0
    by_cases hlt : k < F.length
    · have hki : (k : Int) < (F.length : Int) := by omega
      go_wp2_with fail
      refine (c_qOf 0 w1 (by omega) (by omega)).mono ?_
      rintro e w3 ⟨⟨s3, p3, n3, c3, t3, q3, m3, d3, rfl, hq3⟩, hb3⟩
      have hr3 := QRow.keep (fun _ => IsQ.solid _) HROW.out hb3
      have HQA := Lib.hid (QRow.set (k' := k + 1) (fun _ => IsQ.solid _) hr3 k hlt (fun _ => IsQ 0) (IsQ.solid _) (fun i' h1 h2 => ⟨by omega, rfl⟩) (show IsQ 0 w3 s3 p3 n3 c3 t3 q3 m3 d3 from hq3))
      have HB3 := Lib.hid (HB1.out.trans (hb3.mono (Nat.le_of_lt HROW.out.sts.1)))
      obtain ⟨u0, hu0⟩ := Option.isSome_iff_exists.1 (hr3.has (k * 4) (by omega))
      obtain ⟨u1, hu1⟩ := Option.isSome_iff_exists.1 (hr3.has (k * 4 + 1) (by omega))
      obtain ⟨u2, hu2⟩ := Option.isSome_iff_exists.1 (hr3.has (k * 4 + 2) (by omega))
      obtain ⟨u3, hu3⟩ := Option.isSome_iff_exists.1 (hr3.has (k * 4 + 3) (by omega))
      have f0 := hr3.free (k * 4) (by omega)
      have f1 := hr3.free (k * 4 + 1) (by omega)
      have f2 := hr3.free (k * 4 + 2) (by omega)
      have f3 := hr3.free (k * 4 + 3) (by omega)
      clear hq3 hb3 hr3
      go_wp2
      go_roundw
      case rel => exact ⟨k + 1, by omega, by go_num, HQA.out, below_put4g HB3.out⟩
      case measure => simp [intOf]; omega
    · obtain rfl : F.length = k := by omega
      have HROW0 := Lib.hid (show QRow (fun i => IsQ (vecS V X 0 (F.getD i 0))) w1 G F.length F.length from QRow.congr HROW.out (fun i _ => by rw [vecS_zero]))
      clear HROW
      go_wp2_with fail
      go_loopw [38] (fun ii wr => ∃ k : Nat, k ≤ C ∧ ii = .int .i64 k ∧ QRow (fun i => IsQ (vecS V X k (F.getD i 0))) wr G F.length F.length ∧ Below G w wr) (fun ii _ => C - (intOf ii).toNat)
      case atStart => exact ⟨0, Nat.zero_le _, rfl, HROW0.out, HB1.out⟩
      case round =>
        obtain ⟨k, hk, rfl, hrow, hb2⟩ := hrel
        obtain ⟨w2, rfl⟩ : ∃ w2 : World, w2 = wr := ⟨_, rfl⟩
        have HROW := Lib.hid hrow
        have HB2 := Lib.hid hb2
        clear hrow hb2 HROW0 HB1
        by_cases hkC : k < C
        · have hki : (k : Int) < (C : Int) := by omega
          have hb2 := HB2.out
          rw [← HGE.out] at hb2
          obtain ⟨s, p, n5, c5, t, q, m5, d5, a0, a1, a2, a3, hx⟩ := (HVE.out k hkC).keep (IsQ.solid _) hb2
          have HQ2 := Lib.hid (show Qs w2 s p n5 c5 t q m5 d5 (V k) from hx)
          clear hx hb2
          go_wp2_with fail
          obtain ⟨w3, hw3⟩ : ∃ w3, w2.alloc (.cells #[.bool s, .slice p n5 c5, .bool t, .slice q m5 d5] 35) = w3 := ⟨_, rfl⟩
          have hb3 : Below w2.heap.size w2 w3 := hw3 ▸ (Below.refl _ _).alloc (Nat.le_refl _) _
          have X3 := hw3 ▸ Blk.new w2 35 #[.bool s, .slice p n5 c5, .bool t, .slice q m5 d5]
          rw [hw3]
          obtain ⟨gx, hgx⟩ : ∃ gx, w2.heap.size = gx := ⟨_, rfl⟩
          have HGX := Lib.hid (show gx ≠ G by have := HROW.out.sts.1; omega)
          rw [hgx] at X3 ⊢
          refine (c_qSignQ s p n5 c5 t q m5 d5 (V k) w3 (HQ2.out.keep hb3) (by have := HV.out k hkC; omega)).mono ?_
          rintro e w4 ⟨⟨sg, rfl, hsg⟩, hb4⟩
          have hb24 := hb3.trans (hb4.mono hb3.size)
          have HSG := Lib.hid hsg
          have HROW4 := Lib.hid (QRow.keep (fun _ => IsQ.solid _) HROW.out hb24)
          have HB4 := Lib.hid (HB2.out.trans (hb24.mono (Nat.le_of_lt HROW.out.sts.1)))
          have HX4 := Lib.hid (X3.below_ hb4 X3.lt)
          have HQ4 := Lib.hid (HQ2.out.keep hb24)
          clear hw3 hb3 X3 hgx hsg hb4 hb24 a0 a1 a2 a3 HROW HB2 HQ2
          by_cases hz : V k = 0
          · obtain rfl : sg = 0 := HSG.out.2 hz
            have HSK := Lib.hid (show QRow (fun i => IsQ (vecS V X (k + 1) (F.getD i 0))) w4 G F.length F.length from QRow.congr HROW4.out (fun i _ => by rw [vecS_succ, hz, Rat.zero_mul, Rat.add_zero]))
            clear hz
            go_wp2
            go_roundw
            case rel => exact ⟨k + 1, by omega, by go_num, HSK.out, HB4.out⟩
            case measure => simp [intOf]; omega
          · have h0 : (sg != 0) = true := by
              have : sg ≠ 0 := fun e => hz (HSG.out.1 e)
              simpa using this
            obtain ⟨gr, rr, hgr, hrq⟩ := HR4.out k hkC
            rw [HGE.out] at hgr
            have HRQ := Lib.hid (show ∀ W, Below G w W → ∀ i, i < F.length → QE (IsQ (X k (F.getD i 0))) W gr (0 + i * 4) from fun W hb i hi => (hrq i hi).keep (IsQ.solid _) (by rw [HGE.out]; exact hb))
            have HGRN := Lib.hid (show gr < G from hgr)
            have m4 := (HB4.out.cell (p := ⟨M, 4, none⟩) hML).trans HC4.out
            have r4 := (HB4.out.cell (p := ⟨GR, k, none⟩) hGRL).trans rr
            have b0 := HX4.out.at_ 0 rfl
            have b1 := HX4.out.at_ 1 rfl
            have b2 := HX4.out.at_ 2 rfl
            have b3 := HX4.out.at_ 3 rfl
            have HS1 := Lib.hid (show ∀ w', Below w4.heap.size w4 w' → (w'.cell? ⟨gx, 0, none⟩ = some (.bool s) ∧ w'.cell? ⟨gx, 1, none⟩ = some (.slice p n5 c5) ∧ w'.cell? ⟨gx, 2, none⟩ = some (.bool t) ∧ w'.cell? ⟨gx, 3, none⟩ = some (.slice q m5 d5) ∧ w'.cell? ⟨M, 4, none⟩ = some (.slice (some ⟨GR, 0, none⟩) C C) ∧ w'.cell? ⟨GR, k, none⟩ = some (.slice (some ⟨gr, 0, none⟩) F.length F.length)) from fun w' hb => ⟨cell_next hb b0, cell_next hb b1, cell_next hb b2, cell_next hb b3, cell_next hb m4, cell_next hb r4⟩)
            have hS0 := HS1.out _ (Below.refl _ w4).drew
            have HNE := Lib.hid (show gx ≠ G ∧ M ≠ G ∧ GR ≠ G from ⟨HGX.out, by omega, by omega⟩)
            have HSZ := Lib.hid (show ∀ f, f < F.length → hq (vecS V X k (F.getD f 0)) ≤ 100000000 from fun f hf => by
              have h1 := vecS_size (f := F.getD f 0) k (fun j hj => HV.out j (by omega)) (fun j hj => HX.out j _ (by omega) (HMEM.out f hf))
              have h2 : k * (10000 + 10000 + 1) ≤ 1000 * (10000 + 10000 + 1) := Nat.mul_le_mul_right _ (by omega)
              omega)
            have HAD := Lib.hid (c_addTo G F.length F.length (.slice (some ⟨gr, 0, none⟩) F.length F.length) (fun i => vecS V X k (F.getD i 0)) (fun i => X k (F.getD i 0)) s p n5 c5 t q m5 d5 (V k) w4.drew (HROW4.out.keep (fun _ => IsQ.solid _) (Below.refl _ w4).drew) (.inr ⟨gr, 0, F.length, rfl, Nat.ne_of_lt HGRN.out, by have := HROW4.out.sts.1; have := HGRN.out; show gr < w4.heap.size; omega, fun f hf => HRQ.out _ HB4.out.drew f hf⟩) (HQ4.out.keep (Below.refl _ w4).drew) (by have := HV.out k hkC; omega) (fun f hf => ⟨HSZ.out f hf, by have := HX.out k _ hkC (HMEM.out f hf); omega⟩) (by omega))
            have HK1 := Lib.hid (show ∀ w', w4.drew.grownBy w' (some G) → Below G w w' from fun w' hg => below_but HB4.out.drew hg (by have := HROW4.out.sts.1; show G ≤ w4.heap.size; omega) (Nat.le_refl _))
            have HK2 := Lib.hid (show ∀ w', w4.drew.grownBy w' (some G) → (w'.cell? ⟨gx, 0, none⟩ = some (.bool s) ∧ w'.cell? ⟨gx, 1, none⟩ = some (.slice p n5 c5) ∧ w'.cell? ⟨gx, 2, none⟩ = some (.bool t) ∧ w'.cell? ⟨gx, 3, none⟩ = some (.slice q m5 d5) ∧ w'.cell? ⟨M, 4, none⟩ = some (.slice (some ⟨GR, 0, none⟩) C C) ∧ w'.cell? ⟨GR, k, none⟩ = some (.slice (some ⟨gr, 0, none⟩) F.length F.length)) from fun w' hg => ⟨hg.cell hS0.1 (fun e => HNE.out.1 (by injection e)), hg.cell hS0.2.1 (fun e => HNE.out.1 (by injection e)), hg.cell hS0.2.2.1 (fun e => HNE.out.1 (by injection e)), hg.cell hS0.2.2.2.1 (fun e => HNE.out.1 (by injection e)), hg.cell hS0.2.2.2.2.1 (fun e => HNE.out.2.1 (by injection e)), hg.cell hS0.2.2.2.2.2 (fun e => HNE.out.2.2 (by injection e))⟩)
            clear hz hrq hgr m4 r4 rr b0 b1 b2 b3
            go_upto_region 15 with (fail)
            go_region_held3 (fun w' => w'.cell? ⟨gx, 0, none⟩ = some (.bool s) ∧ w'.cell? ⟨gx, 1, none⟩ = some (.slice p n5 c5) ∧ w'.cell? ⟨gx, 2, none⟩ = some (.bool t) ∧ w'.cell? ⟨gx, 3, none⟩ = some (.slice q m5 d5) ∧ w'.cell? ⟨M, 4, none⟩ = some (.slice (some ⟨GR, 0, none⟩) C C) ∧ w'.cell? ⟨GR, k, none⟩ = some (.slice (some ⟨gr, 0, none⟩) F.length F.length))
              (first | with_reducible exact hS0 | with_reducible exact HSA.out | (exfalso; assumption))
              (first
                | (go_at_call 56; (with_reducible refine HAD.out.mono ?_); rintro e w10 ⟨⟨va, rfl⟩, hrow10, hg10, _⟩; have HR10 := Lib.hid hrow10; have HB10 := Lib.hid (HK1.out _ hg10); have HSA := Lib.hid (HK2.out _ hg10); clear hrow10 hg10))
            all_goals go_wp2
            all_goals go_roundw
            all_goals first
              | exact ⟨k + 1, by omega, by go_num, QRow.congr HR10.out (fun f hf => by rw [vecS_succ]), HB10.out⟩
              | (simp [intOf]; omega)
        · obtain rfl : C = k := by omega
          have hE := HGE.out
          go_wp2
          (first | go_ret2 | go_ret)
          exact ⟨⟨G, rfl, Nat.le_of_eq hE, HROW.out⟩, hE ▸ HB2.out⟩
end Go.Proofs.YthikonjlgljikaaGreatDoor
