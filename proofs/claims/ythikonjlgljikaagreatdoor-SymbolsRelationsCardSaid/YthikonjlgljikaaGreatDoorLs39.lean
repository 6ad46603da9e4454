/- Contract of manin.enter: the world of a Spec. -/
import Derived.Test.YthikonjlgljikaaGreatDoorLs38
import Derived.Test.YthikonjlgljikaaGreatDoorLs04
import Derived.Test.YthikonjlgljikaaGreatDoorLs03
namespace Go.Proofs.YthikonjlgljikaaGreatDoor
open Go.RowKit

/-- The cells of a table of places. -/
def plc (f : Nat → Nat × Int) (i : Nat) : Value := .int .i64 (if i % 2 = 0 then ((f (i / 2)).1 : Int) else (f (i / 2)).2)
theorem plc_set (f : Nat → Nat × Int) (p i : Nat) (x : Nat × Int) : plc (tset f p x) i = if i = p * 2 + 1 then .int .i64 x.2 else if i = p * 2 then .int .i64 (x.1 : Int) else plc f i := by
  unfold plc tset
  by_cases h1 : i = p * 2 + 1
  · subst h1
    rw [if_pos rfl, if_neg (by omega), show (p * 2 + 1) / 2 = p by omega, if_pos rfl]
  · rw [if_neg h1]
    by_cases h2 : i = p * 2
    · subst h2
      rw [if_pos rfl, if_pos (by omega), show p * 2 / 2 = p by omega, if_pos rfl]
    · have h3 : i / 2 ≠ p := by omega
      simp only [if_neg h2, if_neg h3]
theorem CRow.place {f : Nat → Nat × Int} {w : World} {g m p : Nat} (h : CRow (plc f) w g m) (x : Nat × Int) : CRow (plc (tset f p x)) ((w.setCell ⟨g, p * 2, none⟩ (.int .i64 (x.1 : Int))).setCell ⟨g, p * 2 + 1, none⟩ (.int .i64 x.2)) g m := by
  have h1 := h.set (p * 2) (.int .i64 (x.1 : Int)) (fun _ h => by cases h) (fun i => if i = p * 2 then .int .i64 (x.1 : Int) else plc f i) (fun i _ => rfl)
  exact h1.set (p * 2 + 1) (.int .i64 x.2) (fun _ h => by cases h) _ (fun i _ => by rw [plc_set])
theorem plInfo : (Tryz.prog.info? 179).map (fun i => (i.zero, i.size, i.bytes)) = some (some (.agg #[.int .i64 0, .int .i64 0]), 2, 16) := by kernel_rfl
theorem made2 {z : Value} {n i : Nat} {v : Value} (h : (madeCells #[z, z] n)[i]? = some v) : v = z := by
  unfold madeCells at h
  simp only [Array.getElem?_map, Array.getElem?_range] at h
  split at h
  · simp only [Option.map_some] at h
    injection h with h
    rw [← h]
    have h3 : i % 2 = 0 ∨ i % 2 = 1 := by omega
    show (#[z, z] : Array Value)[i % 2]! = _
    rcases h3 with h3 | h3 <;> rw [h3] <;> rfl
  · cases h
theorem makeP (n : Nat) (h : n ≤ 1000000) (w : World) :
    (Instr.makeSlice 132 (.int .i64 (n : Int)) (.int .i64 (n : Int))).run Tryz.prog w = .ok (.slice (some ⟨w.heap.size, 0, none⟩) n n) (w.alloc (.cells (madeCells #[.int .i64 0, .int .i64 0] (n * 2)) 179)) := by
  obtain ⟨i, hi, hz0, hz1, hz2⟩ := info_parts plInfo
  have hr := run_make (P := Tryz.prog) w 132 179 i _ Tryz.underlying132 hi hz0 .i64 .i64 n n (by omega) (Int.le_refl _) (by rw [hz2]; omega) (by omega)
  rw [Int.toNat_natCast, hz1] at hr
  exact hr
theorem CRow.places (w : World) (n : Nat) : CRow (plc (fun _ => (0, 0))) (w.alloc (.cells (madeCells #[.int .i64 0, .int .i64 0] (n * 2)) 179)) w.heap.size (n * 2) := by
  have hb := Blk.new w 179 (madeCells #[.int .i64 0, .int .i64 0] (n * 2))
  refine ⟨Stk.of hb ?_, fun i _ => hb.free_ i, fun i hi => ?_⟩
  · intro v hv
    obtain ⟨i, hi⟩ := Array.getElem?_of_mem (Array.mem_toList_iff.1 hv)
    rw [made2 hi]
    exact fun _ h => by cases h
  · rw [hb.cell_ i, Array.getElem?_eq_getElem (by rw [size_madeCells]; exact hi)]
    congr 1
    rw [made2 (Array.getElem?_eq_getElem (by rw [size_madeCells]; exact hi))]
    unfold plc
    split <;> rfl

/-- The world of a Spec in memory: level, weight less 2, the list of points and the table of places. -/
structure WorldAt (w : World) (T B n wt : Nat) (L : List Nat) (f : Nat → Nat × Int) : Prop where
  lt : T < B
  c0 : w.cell? ⟨T, 0, none⟩ = some (.int .i64 (n : Int))
  c1 : w.cell? ⟨T, 1, none⟩ = some (.int .i64 (wt : Int))
  c2 : ∃ p c, w.cell? ⟨T, 2, none⟩ = some (.slice p L.length c) ∧ PtL n L w B (.slice p L.length c)
  c3 : ∃ g, w.cell? ⟨T, 3, none⟩ = some (.slice (some ⟨g, 0, none⟩) (n * n) (n * n)) ∧ g < B ∧ ∀ i, i < n * n * 2 → w.cell? ⟨g, i, none⟩ = some (plc f i)
theorem WorldAt.next {w w' : World} {T B B' n wt : Nat} {L : List Nat} {f : Nat → Nat × Int} (h : WorldAt w T B n wt L f) (hb : Below B' w w') (hB : B ≤ B') : WorldAt w' T B n wt L f := by
  have hc : ∀ g i v, g < B → w.cell? ⟨g, i, none⟩ = some v → w'.cell? ⟨g, i, none⟩ = some v := fun g i v hg e => (hb.cell (p := ⟨g, i, none⟩) (Nat.lt_of_lt_of_le hg hB)).trans e
  obtain ⟨p, c, e2, h2⟩ := h.c2
  obtain ⟨g, e3, hg, h3⟩ := h.c3
  exact ⟨h.lt, hc _ _ _ h.lt h.c0, hc _ _ _ h.lt h.c1, ⟨p, c, hc _ _ _ h.lt e2, h2.next (hb.mono hB)⟩, g, hc _ _ _ h.lt e3, hg, fun i hi => hc _ _ _ hg (h3 i hi)⟩
theorem WorldAt.keep {w w' : World} {T B n wt : Nat} {L : List Nat} {f : Nat → Nat × Int} (h : WorldAt w T B n wt L f) (hB : B ≤ w.heap.size) (hb : Below w.heap.size w w') : WorldAt w' T B n wt L f := h.next hb hB
theorem WorldAt.up {w : World} {T B B' n wt : Nat} {L : List Nat} {f : Nat → Nat × Int} (h : WorldAt w T B n wt L f) (hB : B ≤ B') : WorldAt w T B' n wt L f := by
  obtain ⟨p, c, e2, h2⟩ := h.c2
  obtain ⟨g, e3, hg, h3⟩ := h.c3
  exact ⟨Nat.lt_of_lt_of_le h.lt hB, h.c0, h.c1, ⟨p, c, e2, h2.up hB⟩, g, e3, Nat.lt_of_lt_of_le hg hB, h3⟩
theorem PtL.but {n : Nat} {l : List Nat} {w w' : World} {B G : Nat} {v : Value} (h : PtL n l w B v) (hg : w.grownBy w' (some G)) (hG : B ≤ G) : PtL n l w' B v := by
  rcases h with h | ⟨g, cap, e, hgB, hx⟩
  · exact .inl h
  · have hne : ∀ i, some (⟨g, i, none⟩ : Addr).block ≠ some G := fun i e => by injection e with e; simp at e; omega
    exact .inr ⟨g, cap, e, hgB, fun j a ha => by
      obtain ⟨h0, h1, h2⟩ := hx j a ha
      exact ⟨hg.cell h0 (hne _), hg.cell h1 (hne _), hg.cell h2 (hne _)⟩⟩
set_option maxHeartbeats 4000000 in
set_option maxRecDepth 100000 in
theorem c_enter_ok (n wt : Nat) (D : Int) (w : World) (hT : Tab w) (h0 : 0 < n) (hn : n ≤ 120) (hwt : wt ≤ 22) (hD : -120 ≤ D) (hD' : D ≤ 120) (hck : Pl.check n ((wt : Int) + 2) D = 0) :
    Calls Tryz.prog 68 #[.agg #[.int .i64 n, .int .i64 ((wt : Int) + 2), .int .i64 D]] w fun e w' => (∃ T, e = .returned (.tuple #[.pointer (some ⟨T, 0, none⟩), .int .i64 0]) ∧ WorldAt w' T w'.heap.size n wt (pts n (n * n)) (plAll n D (pts n (n * n)) n)) ∧ Below w.heap.size w w' := by
  obtain ⟨L, hL⟩ : ∃ l, pts n (n * n) = l := ⟨_, rfl⟩
  have hLl : L.length ≤ n * n := hL ▸ pts_length n (n * n)
  obtain ⟨NN, hNN⟩ : ∃ m, n * n = m := ⟨_, rfl⟩
  have hNl : NN ≤ 14400 := by rw [← hNN]; exact Nat.mul_le_mul hn hn
  have hnn : (n : Int) * (n : Int) = (NN : Nat) := by rw [← hNN]; push_cast; rfl
  have hmk := makeP NN (by omega)
  have HNN := Lib.hid hNN
  have HTB := Lib.hid hT
  have HCK := Lib.hid hck
  have HLE := Lib.hid hL
  rw [hL]
  rw [hNN] at hLl
  clear hNN hT hck hL
  go_enter Tryz.func68, Tryz.ntmps68
  go_wp2_with fail
  obtain ⟨w0, hw0⟩ : ∃ w0, w.alloc (.cells #[.int .i64 n, .int .i64 ((wt : Int) + 2), .int .i64 D] 23) = w0 := ⟨_, rfl⟩
  rw [hw0]
  obtain ⟨X0, hb0⟩ := box1 w #[.int .i64 n, .int .i64 ((wt : Int) + 2), .int .i64 D] 23
  rw [hw0] at X0 hb0
  refine (c_Check n ((wt : Int) + 2) D w0).mono ?_
  rintro e w1 ⟨rfl, hb1⟩
  rw [HCK.out]
  have X1 := X0.below_ hb1 X0.lt
  have x0 := X1.at_ 0 rfl
  have HB1 := Lib.hid (hb0.trans (hb1.mono hb0.size))
  have HX1 := Lib.hid X1
  clear hw0 X0 hb0 hb1 X1
  go_wp2_with fail
  refine (c_PList n w1 h0 hn).mono ?_
  rintro e w2 ⟨⟨lv, rfl, hpt⟩, hb2⟩
  obtain ⟨pl, cl, hlv⟩ := own_slice hpt.1
  subst hlv
  have hptl := hpt.ptl
  rw [HLE.out] at hptl ⊢
  have HPT := Lib.hid hptl
  have HX2 := Lib.hid (HX1.out.below_ hb2 HX1.out.lt)
  have HB2 := Lib.hid (HB1.out.trans (hb2.mono HB1.out.size))
  have HT2 := Lib.hid (HTB.out.below HB2.out)
  have a0 := HX2.out.at_ 0 rfl
  have a1 := HX2.out.at_ 1 rfl
  have hsub : (wt : Int) + 2 - 2 = (wt : Nat) := by omega
  have hw22 : (0 : Int) ≤ (wt : Int) := by omega
  have vN : IntKind.i64.wrap (NN : Int) = (NN : Nat) := IntWalk.i64_in _ (by omega)
  have vW : IntKind.i64.wrap (wt : Int) = (wt : Nat) := IntWalk.i64_in _ (by omega)
  clear hpt hptl hb2 x0 HB1 HX1 HTB HCK
  go_upto_region 8 with (fail)
  have HS1 := Lib.hid (show ∀ w4, Below w2.heap.size w2 w4 → (w4.cell? ⟨w.heap.size, 1, none⟩ = some (.int .i64 ((wt : Int) + 2))) from fun w4 hb => cell_next hb a1)
  have hS0 := HS1.out _ (Below.refl _ w2).drew
  go_region_held3 (fun w4 => w4.cell? ⟨w.heap.size, 1, none⟩ = some (.int .i64 ((wt : Int) + 2)))
    (first | with_reducible exact hS0 | exact HS1.out _ ((Below.refl _ w2).drew.alloc (Nat.le_refl _) _) | exact HS1.out _ (((Below.refl _ w2).alloc (Nat.le_refl _) _).drew) | exact HS1.out _ (((Below.refl _ w2).drew.alloc (Nat.le_refl _) _).alloc (Nat.le_of_lt (by simp)) _) | exact HS1.out _ ((((Below.refl _ w2).alloc (Nat.le_refl _) _).drew).alloc (Nat.le_of_lt (by simp)) _) | (exfalso; assumption))
    (fail)
  all_goals go_wp2
  have hcr0 := CRow.places w2 NN
  obtain ⟨wx, hwx⟩ : ∃ wx, ((w2.alloc (.cells (madeCells #[.int .i64 0, .int .i64 0] (NN * 2)) 179)).alloc (.cells #[.int .i64 n, .int .i64 wt, .slice pl L.length cl, .slice (some ⟨w2.heap.size, 0, none⟩) NN NN] 134)).drew = wx := ⟨_, rfl⟩
  have hbm : Below w2.heap.size w2 (w2.alloc (.cells (madeCells #[.int .i64 0, .int .i64 0] (NN * 2)) 179)) := (Below.refl _ _).alloc (Nat.le_refl _) _
  have hbx : Below (w2.alloc (.cells (madeCells #[.int .i64 0, .int .i64 0] (NN * 2)) 179)).heap.size (w2.alloc (.cells (madeCells #[.int .i64 0, .int .i64 0] (NN * 2)) 179)) wx := hwx ▸ ((Below.refl _ _).alloc (Nat.le_refl _) _).drew
  have hsm : (w2.alloc (.cells (madeCells #[.int .i64 0, .int .i64 0] (NN * 2)) 179)).heap.size = w2.heap.size + 1 := by simp
  have hcr1 := hcr0.keep hbx
  have hmb : Blk wx (w2.heap.size + 1) 134 #[.int .i64 n, .int .i64 wt, .slice pl L.length cl, .slice (some ⟨w2.heap.size, 0, none⟩) NN NN] := by
    have h := Blk.new (w2.alloc (.cells (madeCells #[.int .i64 0, .int .i64 0] (NN * 2)) 179)) 134 #[.int .i64 n, .int .i64 wt, .slice pl L.length cl, .slice (some ⟨w2.heap.size, 0, none⟩) NN NN]
    rw [hsm] at h
    exact hwx ▸ h.below_ (Below.refl _ _).drew h.lt
  have hbw : Below w2.heap.size w2 wx := hbm.trans (hbx.mono hbm.size)
  have hxs := HX2.out.below_ hbw HX2.out.lt
  have hptx := HPT.out.next hbw
  rw [hwx]
  obtain ⟨gP, hgP⟩ : ∃ gP, w2.heap.size = gP := ⟨_, rfl⟩
  obtain ⟨T, hTe⟩ : ∃ T, gP + 1 = T := ⟨_, rfl⟩
  obtain ⟨gs, hgs⟩ : ∃ gs, w.heap.size = gs := ⟨_, rfl⟩
  have HGS := Lib.hid (show gs < gP by have := HX2.out.lt; omega)
  have HWS := Lib.hid (show w.heap.size ≤ gP by have := HB2.out.size; omega)
  rw [hgP] at hcr1 hmb hbw hptx ⊢
  rw [hTe] at hmb ⊢
  rw [hgs] at hxs ⊢
  have HCR := Lib.hid hcr1
  have HMB := Lib.hid hmb
  have HBX := Lib.hid hbw
  have HXS := Lib.hid hxs
  have HPX := Lib.hid hptx
  have HGT := Lib.hid (show T ≠ gP by omega)
  have HTW := Lib.hid (show ∀ w', wx.grownBy w' (some gP) → Tab w' from fun w' hg => HT2.out.below (hgP ▸ below_but hbw hg (by have := hbw.size; omega) (Nat.le_refl _)))
  have HGW := Lib.hid (show gP ≤ wx.heap.size by have := hmb.lt; omega)
  have HMX := Lib.hid (show T < wx.heap.size from hmb.lt)
  clear hcr0 hcr1 hmb hbw hxs hptx hwx hbm hbx hsm hgP hTe hgs hmk HS1 hS0 a0 a1 HX2 HPT HT2
  go_loopw [9] (fun v wr => ∃ l1 : Nat, 1 ≤ l1 ∧ l1 ≤ n + 1 ∧ v = .int .i64 l1 ∧ CRow (plc (plAll n D L (l1 - 1))) wr gP (NN * 2) ∧ wx.grownBy wr (some gP)) (fun v _ => n + 1 - (intOf v).toNat)
  case atStart => exact ⟨1, Nat.le_refl _, by omega, rfl, HCR.out, but_below gP (Below.refl _ _)⟩
  case round =>
    obtain ⟨l1, hl1, hl2, rfl, hcr, hgr⟩ := hrel
    obtain ⟨w3, rfl⟩ : ∃ w3 : World, w3 = wr := ⟨_, rfl⟩
    have HC3 := Lib.hid hcr
    have HG3 := Lib.hid hgr
    clear hcr hgr HCR
    have hsg : gs ≠ gP := Nat.ne_of_lt HGS.out
    by_cases hlt : l1 ≤ n
    · have hli : (l1 : Int) ≤ (n : Int) := by omega
      go_wp2_with fail
      refine (c_gcd l1 n w3 (by omega) (by omega) (by omega) (by omega)).mono ?_
      rintro e w4 ⟨rfl, m1, rfl⟩
      have hg1 : Int.gcd (l1 : Int) (n : Int) = Nat.gcd l1 n := rfl
      rw [hg1]
      generalize hw4 : w3.drewN m1 = w4
      have hb4 : Below w3.heap.size w3 w4 := hw4 ▸ below_drewN' (Below.refl _ _) m1
      have HC4 := Lib.hid (HC3.out.keep hb4)
      have HG4 := Lib.hid (HG3.out.trans (but_below gP hb4))
      have HAT := Lib.hid (show plAll n D L l1 = if pun n l1 then plRow n l1 (Pl.kroP D l1) L L.length (plAll n D L (l1 - 1)) else plAll n D L (l1 - 1) by
        obtain ⟨l, rfl⟩ : ∃ l, l1 = l + 1 := ⟨l1 - 1, by omega⟩
        rfl)
      have HPU := Lib.hid (show pun n l1 = (Nat.gcd l1 n == 1) from rfl)
      clear hw4 hb4 hg1 HC3 HG3
      cases ho : (Nat.gcd l1 n == 1) with
      | false =>
        have ho2 : (((Nat.gcd l1 n : Nat) : Int) != 1) = true := by
          simp only [beq_eq_false_iff_ne] at ho
          simp; omega
        have HP := Lib.hid (show plAll n D L l1 = plAll n D L (l1 - 1) by rw [HAT.out, HPU.out, ho]; rfl)
        clear ho
        go_wp2
        go_roundw
        case rel => exact ⟨l1 + 1, by omega, by omega, by go_num, by rw [Nat.add_sub_cancel, HP.out]; exact HC4.out, HG4.out⟩
        case measure => simp [intOf]; omega
      | true =>
        have ho2 : (((Nat.gcd l1 n : Nat) : Int) != 1) = false := by
          simp only [beq_iff_eq] at ho
          rw [ho]; rfl
        have HP := Lib.hid (show plAll n D L l1 = plRow n l1 (Pl.kroP D l1) L L.length (plAll n D L (l1 - 1)) by rw [HAT.out, HPU.out, ho]; rfl)
        have x2 := HG4.out.cell (HXS.out.at_ 2 rfl) (fun e => by injection e with e; exact hsg e)
        clear ho
        go_wp2_with fail
        refine (c_Kronecker D l1 w4 (HTW.out w4 HG4.out) (by omega) (by omega) (by omega) (by omega)).mono ?_
        rintro e w5 ⟨rfl, rfl⟩
        obtain ⟨ch, hch⟩ : ∃ ch, Pl.kroP D l1 = ch := ⟨_, rfl⟩
        rw [hch] at HP ⊢
        clear x2 hch
        go_wp2_with fail
        have HC0 := Lib.hid (show CRow (plc (plRow n l1 ch L 0 (plAll n D L (l1 - 1)))) w4 gP (NN * 2) from HC4.out)
        go_loopw [55] (fun ii w5 => ∃ j : Nat, j ≤ L.length ∧ ii = .int .i64 j ∧ CRow (plc (plRow n l1 ch L j (plAll n D L (l1 - 1)))) w5 gP (NN * 2) ∧ wx.grownBy w5 (some gP)) (fun ii _ => L.length - (intOf ii).toNat)
        case atStart => exact ⟨0, Nat.zero_le _, rfl, HC0.out, HG4.out⟩
        case round =>
          obtain ⟨j, hj, rfl, hcr5, hgr5⟩ := hrel
          obtain ⟨w5, rfl⟩ : ∃ w5 : World, w5 = wr := ⟨_, rfl⟩
          have HC5 := Lib.hid hcr5
          have HG5 := Lib.hid hgr5
          clear hcr5 hgr5 HC0 HC4 HG4
          by_cases hjl : j < L.length
          · have hji : (j : Int) < (L.length : Int) := by omega
            obtain ⟨a, ha⟩ : ∃ a, L[j]? = some a := ⟨_, List.getElem?_eq_getElem hjl⟩
            have haN : a < n * n := by
              have h := List.mem_of_getElem? ha
              rw [← HLE.out] at h
              exact pts_lt h
            have hgd : L.getD j 0 = a := by rw [List.getD_eq_getElem?_getD, ha]; rfl
            have HGD := Lib.hid hgd
            rcases HPX.out.but HG5.out (Nat.le_refl _) with ⟨h0', _⟩ | ⟨gL, cap', e, hgL, hx⟩
            · rw [h0'] at hjl; simp at hjl
            cases e
            obtain ⟨p0, p1, p2⟩ := hx j a ha
            have hdu : a / n < n := Nat.div_lt_of_lt_mul haN
            have hdv : a % n < n := Nat.mod_lt _ h0
            obtain ⟨u, hu⟩ : ∃ u, a / n = u := ⟨_, rfl⟩
            obtain ⟨v, hv⟩ : ∃ v, a % n = v := ⟨_, rfl⟩
            rw [hu] at p0 hdu
            rw [hv] at p1 hdv
            have HU := Lib.hid hu
            have HV := Lib.hid hv
            clear hu hv hgd ha haN hx
            go_wp2_with fail
            obtain ⟨wb, hwb⟩ : ∃ wb, w5.alloc (.cells #[.int .i64 (u : Int), .int .i64 (v : Int), .int .i64 1] 177) = wb := ⟨_, rfl⟩
            have hbb : Below w5.heap.size w5 wb := hwb ▸ (Below.refl _ _).alloc (Nat.le_refl _) _
            have X := hwb ▸ Blk.new w5 177 #[.int .i64 (u : Int), .int .i64 (v : Int), .int .i64 1]
            rw [hwb]
            obtain ⟨gb, hgb⟩ : ∃ gb, w5.heap.size = gb := ⟨_, rfl⟩
            rw [hgb] at X ⊢
            have hTb : T ≠ gP := HGT.out
            have hgbP : gb ≠ gP := by have := HG5.out.size; have := HGW.out; have := HC5.out.stk.1; omega
            obtain ⟨SU, hSU⟩ : ∃ x, l1 * u = x := ⟨_, rfl⟩
            obtain ⟨SW, hSW⟩ : ∃ x, l1 * v = x := ⟨_, rfl⟩
            obtain ⟨P1, hP1⟩ : ∃ x, SU % n = x := ⟨_, rfl⟩
            obtain ⟨P2, hP2⟩ : ∃ x, SW % n = x := ⟨_, rfl⟩
            obtain ⟨PN, hPN⟩ : ∃ x, P1 * n = x := ⟨_, rfl⟩
            have q1 : SU ≤ 14400 := by rw [← hSU]; exact Nat.mul_le_mul (by omega : l1 ≤ 120) (by omega : u ≤ 120)
            have q2 : SW ≤ 14400 := by rw [← hSW]; exact Nat.mul_le_mul (by omega : l1 ≤ 120) (by omega : v ≤ 120)
            have q3 : P1 < n := hP1 ▸ Nat.mod_lt _ h0
            have q4 : P2 < n := hP2 ▸ Nat.mod_lt _ h0
            have q5 : PN ≤ 14400 := by rw [← hPN]; exact Nat.mul_le_mul (by omega : P1 ≤ 120) (by omega : n ≤ 120)
            have e1 : (l1 : Int) * (u : Int) = (SU : Nat) := by rw [← hSU]; push_cast; rfl
            have e2 : (l1 : Int) * (v : Int) = (SW : Nat) := by rw [← hSW]; push_cast; rfl
            have e3 : (SU : Int).tmod (n : Int) = (P1 : Nat) := by rw [Int.tmod_eq_emod_of_nonneg (by omega), ← hP1]; rfl
            have e4 : (SW : Int).tmod (n : Int) = (P2 : Nat) := by rw [Int.tmod_eq_emod_of_nonneg (by omega), ← hP2]; rfl
            have e5 : (P1 : Int) * (n : Int) = (PN : Nat) := by rw [← hPN]; push_cast; rfl
            have hpm : PN + P2 = pmul n l1 a := by unfold pmul; rw [HU.out, HV.out, hSU, hSW, hP1, hP2, hPN]
            obtain ⟨IX, hIX⟩ : ∃ x, PN + P2 = x := ⟨_, rfl⟩
            have e6 : (PN : Int) + (P2 : Int) = (IX : Nat) := by omega
            have hIN : IX < NN := by rw [← hIX, hpm, ← HNN.out]; exact pmul_lt h0 l1 a
            have hINi : (IX : Int) < (NN : Int) := by omega
            have HIX := Lib.hid (show IX = pmul n l1 a by rw [← hIX, hpm])
            have hcb := HC5.out.keep hbb
            have d0 := hcb.val (IX * 2) (by omega)
            have d1 := hcb.free (IX * 2) (by omega)
            have d2 := hcb.val (IX * 2 + 1) (by omega)
            have d3 := hcb.free (IX * 2 + 1) (by omega)
            have hni : (n : Int) ≠ 0 := by omega
            have z1 : ((n : Int) == 0) = false := by simpa using hni
            have z2 : n ≠ 0 := by omega
            have i0 : (0 : Int) ≤ (IX : Int) := by omega
            have v1 : IntKind.i64.wrap (SU : Int) = (SU : Nat) := IntWalk.i64_in _ (by omega)
            have v2 : IntKind.i64.wrap (SW : Int) = (SW : Nat) := IntWalk.i64_in _ (by omega)
            have v3 : IntKind.i64.wrap (PN : Int) = (PN : Nat) := IntWalk.i64_in _ (by omega)
            have v5 : IntKind.i64.wrap (P1 : Int) = (P1 : Nat) := IntWalk.i64_in _ (by omega)
            have v6 : IntKind.i64.wrap (P2 : Int) = (P2 : Nat) := IntWalk.i64_in _ (by omega)
            have v4 : IntKind.i64.wrap (IX : Int) = (IX : Nat) := IntWalk.i64_in _ (by omega)
            have hgx := HG5.out.trans (but_below gP hbb)
            have b0 := X.at_ 0 rfl
            have b1 := X.at_ 1 rfl
            have t3 := hgx.cell (HMB.out.at_ 3 rfl) (fun e => by injection e with e; exact hTb e)
            have hS0 : wb.drew.cell? ⟨T, 3, none⟩ = some (.slice (some ⟨gP, 0, none⟩) NN NN) ∧ wb.drew.cell? ⟨gb, 0, none⟩ = some (.int .i64 (u : Int)) ∧ wb.drew.cell? ⟨gb, 1, none⟩ = some (.int .i64 (v : Int)) := ⟨t3, b0, b1⟩
            have HSA := Lib.hid (show ∀ (X : World) (i j : Nat) (v1 v2 : Value), (X.cell? ⟨T, 3, none⟩ = some (.slice (some ⟨gP, 0, none⟩) NN NN) ∧ X.cell? ⟨gb, 0, none⟩ = some (.int .i64 (u : Int)) ∧ X.cell? ⟨gb, 1, none⟩ = some (.int .i64 (v : Int))) → (((X.setCell ⟨gP, i, none⟩ v1).setCell ⟨gP, j, none⟩ v2).cell? ⟨T, 3, none⟩ = some (.slice (some ⟨gP, 0, none⟩) NN NN) ∧ ((X.setCell ⟨gP, i, none⟩ v1).setCell ⟨gP, j, none⟩ v2).cell? ⟨gb, 0, none⟩ = some (.int .i64 (u : Int)) ∧ ((X.setCell ⟨gP, i, none⟩ v1).setCell ⟨gP, j, none⟩ v2).cell? ⟨gb, 1, none⟩ = some (.int .i64 (v : Int))) from fun X i j v1 v2 h => ⟨by rw [World.cell?_setCell_far _ _ _ _ (by exact hTb.symm), World.cell?_setCell_far _ _ _ _ (by exact hTb.symm)]; exact h.1, by rw [World.cell?_setCell_far _ _ _ _ (by exact hgbP.symm), World.cell?_setCell_far _ _ _ _ (by exact hgbP.symm)]; exact h.2.1, by rw [World.cell?_setCell_far _ _ _ _ (by exact hgbP.symm), World.cell?_setCell_far _ _ _ _ (by exact hgbP.symm)]; exact h.2.2⟩)
            have HCB := Lib.hid hcb
            have HGB := Lib.hid hgx
            clear hSU hSW hP1 hP2 hPN hpm hIX hcb hgx X hwb hbb b0 b1 t3 p0 p1 p2 hgb
            go_upto_region 17 with (fail)
            go_region_held3 (fun w' => w'.cell? ⟨T, 3, none⟩ = some (.slice (some ⟨gP, 0, none⟩) NN NN) ∧ w'.cell? ⟨gb, 0, none⟩ = some (.int .i64 (u : Int)) ∧ w'.cell? ⟨gb, 1, none⟩ = some (.int .i64 (v : Int)))
              (first | with_reducible exact hS0 | exact HSA.out _ _ _ _ _ hS0)
              (fail)
            all_goals go_wp2
            all_goals go_roundw
            all_goals first
              | exact ⟨j + 1, by omega, by go_num, by rw [plRow, HGD.out, ← HIX.out]; exact (HCB.out.place (p := IX) (j, ch)).keep (Below.refl _ _).drew, (HGB.out.trans ((but_put wb gP _ _).trans (but_put _ gP _ _))).trans (but_below gP (Below.refl _ _).drew)⟩
              | (simp [intOf]; omega)
          · obtain rfl : L.length = j := by omega
            go_wp2
            go_roundw
            case rel => exact ⟨l1 + 1, by omega, by omega, by go_num, by rw [Nat.add_sub_cancel, HP.out]; exact HC5.out, HG5.out⟩
            case measure => simp [intOf]; omega
    · obtain rfl : n + 1 = l1 := by omega
      have hgt : ¬ ((n : Int) + 1 ≤ (n : Int)) := by omega
      have hTP : T ≠ gP := HGT.out
      have hsz := HG3.out.size
      have HWA := Lib.hid (show WorldAt w3 T w3.heap.size n wt L (plAll n D L n) from
        ⟨by have := HMX.out; omega, HG3.out.cell (HMB.out.at_ 0 rfl) (fun e => by injection e with e; exact hTP e), HG3.out.cell (HMB.out.at_ 1 rfl) (fun e => by injection e with e; exact hTP e),
          ⟨pl, cl, HG3.out.cell (HMB.out.at_ 2 rfl) (fun e => by injection e with e; exact hTP e), (HPX.out.but HG3.out (Nat.le_refl _)).up (Nat.le_trans HGW.out hsz)⟩,
          gP, by rw [HNN.out]; exact HG3.out.cell (HMB.out.at_ 3 rfl) (fun e => by injection e with e; exact hTP e), HC3.out.stk.1, fun i hi => HC3.out.val i (by rw [← HNN.out]; exact hi)⟩)
      have HBE := Lib.hid (show Below w.heap.size w w3 from below_but (HB2.out.trans (HBX.out.mono HWS.out)) HG3.out (Nat.le_trans HWS.out HGW.out) HWS.out)
      clear hsz
      go_wp2
      (first | go_ret2 | go_ret)
      exact ⟨⟨T, rfl, HWA.out⟩, HBE.out⟩
set_option maxHeartbeats 4000000 in
set_option maxRecDepth 100000 in
theorem c_enter_bad (N k D : Int) (w : World) (hck : Pl.check N k D ≠ 0) :
    Calls Tryz.prog 68 #[.agg #[.int .i64 N, .int .i64 k, .int .i64 D]] w fun e w' => e = .returned (.tuple #[.pointer none, .int .i64 (Pl.check N k D)]) ∧ Below w.heap.size w w' := by
  obtain ⟨er, her⟩ : ∃ er, Pl.check N k D = er := ⟨_, rfl⟩
  have HER := Lib.hid her
  rw [her] at hck ⊢
  clear her
  go_enter Tryz.func68, Tryz.ntmps68
  go_wp2_with fail
  obtain ⟨w0, hw0⟩ : ∃ w0, w.alloc (.cells #[.int .i64 N, .int .i64 k, .int .i64 D] 23) = w0 := ⟨_, rfl⟩
  rw [hw0]
  obtain ⟨X0, hb0⟩ := box1 w #[.int .i64 N, .int .i64 k, .int .i64 D] 23
  rw [hw0] at X0 hb0
  refine (c_Check N k D w0).mono ?_
  rintro e w1 ⟨rfl, hb1⟩
  have HB := Lib.hid (hb0.trans (hb1.mono hb0.size))
  rw [HER.out]
  have hne : (er != 0) = true := by simpa using hck
  clear hw0 X0 hb0 hb1
  go_wp2
  (first | go_ret2 | go_ret)
  exact ⟨rfl, HB.out⟩
end Go.Proofs.YthikonjlgljikaaGreatDoor
