/- Contracts of bigint's add and Add. -/
import Derived.Test.YthikonjlgljikaaGreatDoorLs16
namespace Go.Proofs.YthikonjlgljikaaGreatDoor
open Go.RowKit

/-- A two-cell variable that can be written. -/
structure Var2 (w : World) (R : Nat) : Prop where
  some0 : (w.cell? ⟨R, 0, none⟩).isSome = true
  some1 : (w.cell? ⟨R, 1, none⟩).isSome = true
  free : ∀ i, w.frozen? ⟨R, i, none⟩ = false
  sts : Sts w R
theorem Var2.of {w : World} {R : Nat} {t : TypeId} {a b : Value} (h : Blk w R t #[a, b]) (ha : NotInt a) (hb : NotInt b) : Var2 w R :=
  ⟨by rw [h.at_ 0 rfl]; rfl, by rw [h.at_ 1 rfl]; rfl, fun i => h.free_ i, Sts.of h (by intro v hv; simp at hv; rcases hv with rfl | rfl; exact ha; exact hb)⟩
theorem Var2.next {w w' : World} {R : Nat} (h : Var2 w R) (hb : Below w.heap.size w w') : Var2 w' R := by
  have e0 := hb.cell (p := ⟨R, 0, none⟩) h.sts.1
  have e1 := hb.cell (p := ⟨R, 1, none⟩) h.sts.1
  refine ⟨by rw [e0]; exact h.some0, by rw [e1]; exact h.some1, fun i => ?_, h.sts.next hb⟩
  have e : w'.heap[R]? = w.heap[R]? := hb.block R h.sts.1
  have := h.free i
  unfold World.frozen? at this ⊢
  rw [e]; exact this
theorem Var2.cells {w : World} {R : Nat} (h : Var2 w R) : (∃ u, w.cell? ⟨R, 0, none⟩ = some u) ∧ ∃ u, w.cell? ⟨R, 1, none⟩ = some u := ⟨Option.isSome_iff_exists.1 h.some0, Option.isSome_iff_exists.1 h.some1⟩

set_option maxHeartbeats 1000000 in
set_option maxRecDepth 100000 in
theorem c_add (s : Bool) (p : Option Addr) (n c : Nat) (x : Int) (t : Bool) (q : Option Addr) (m d v : Nat) (w : World) (h : Zr w s p n c x) (h' : Nm w q d v) (hm' : nd v = m) (hn : n ≤ 17592186044400) (hm : m ≤ 17592186044400) :
    Calls Tryz.prog 125 #[.agg #[.bool s, .slice p n c], .bool t, .slice q m d] w fun e w' => RetZ w' e (x + sg t v) ∧ Below w.heap.size w w' := by
  obtain ⟨k, hk, hk2, HL⟩ := h.letters (by omega)
  obtain ⟨u, hu⟩ : ∃ u, x.natAbs = u := ⟨_, rfl⟩
  rw [hu] at HL hk2
  have hP := fun w1 (hb : Below w.heap.size w w1) => c_plus p c (nd u) (dg u) q d (nd v) (dg v) w1 (HL.out.2.1.keep hb) (h'.keep hb) (by omega) (by omega)
  have hC := fun w1 (hb : Below w.heap.size w w1) => c_compare p c u q d v w1 (HL.out.2.1.keep hb) (h'.keep hb) (by omega) (by omega)
  have hL1 := fun (hle : v ≤ u) w1 (hb : Below w.heap.size w w1) => c_less p c (nd u) (dg u) q d (nd v) (dg v) w1 (HL.out.2.1.keep hb) (h'.keep hb) (by omega) (nd_mono hle) (by rw [vf_nd, vf_nd]; exact hle)
  have hL2 := fun (hle : u ≤ v) w1 (hb : Below w.heap.size w w1) => c_less q d (nd v) (dg v) p c (nd u) (dg u) w1 (h'.keep hb) (HL.out.2.1.keep hb) (by omega) (nd_mono hle) (by rw [vf_nd, vf_nd]; exact hle)
  have hvu : vf (dg u) k = u := by rw [← hk2, vf_nd]
  have hvv : vf (dg v) m = v := by rw [← hm', vf_nd]
  simp only [hk2, hm', hvu, hvv] at hP hC hL1 hL2
  have HX := Lib.hid HL.out.1
  have HT := Lib.hid HL.out.2.2
  have HP := Lib.hid hP
  have HC := Lib.hid hC
  have HL1 := Lib.hid hL1
  have HL2 := Lib.hid hL2
  clear hP hC hL1 hL2 HL h h' hk2 hm' hu hvu hvv
  go_enter Tryz.func125, Tryz.ntmps125
  go_wp2_with fail
  obtain ⟨w0, hw0⟩ : ∃ w0, ((w.alloc (.cells #[.bool s, .slice p n c] 33)).alloc (.cells #[.bool false, .slice none 0 0] 33)) = w0 := ⟨_, rfl⟩
  rw [hw0]
  obtain ⟨X0, X1, hb0⟩ := box2 w #[.bool s, .slice p n c] 33 #[.bool false, .slice none 0 0] 33
  rw [hw0] at X0 X1 hb0
  have hs0 : w.heap.size ≤ w0.heap.size := hb0.size
  clear hw0
  have HVR := Lib.hid (Var2.of X1 (NotInt.bool _) (NotInt.slice _ _ _))
  have A0 := X0.at_ 0 rfl
  have A1 := X0.at_ 1 rfl
  refine (HT.out _ hb0).mono ?_
  rintro e w1 ⟨rfl, rfl⟩
  have HB0 := Lib.hid hb0
  have HA0 := Lib.hid X0
  have HA1 := Lib.hid X1
  clear X0 X1 HT hb0
  by_cases hst : s = t
  · subst hst
    have HV := Lib.hid (show sg s (u + v) = x + sg s v by rw [← HX.out, sg_same])
    clear HC HL1 HL2
    go_wp2_with fail
    refine (HP.out _ HB0.out).mono ?_
    rintro e w1 ⟨⟨p1, c1, r1, rfl, hd1, hv1⟩, hb1⟩
    have HS := c_signed s p1 c1 _ r1 w1 hd1 (by omega)
    rw [hv1] at HS
    replace HS := Lib.hid HS
    have HB1 := Lib.hid (HB0.out.trans (hb1.mono HB0.out.size))
    have HV1 := Lib.hid (HVR.out.next hb1)
    clear hd1 hv1 hb1 HP HB0 HVR A0 A1 HA0 HA1
    go_wp2_with fail
    refine HS.out.mono ?_
    rintro e w2 ⟨⟨s2, p2, n2, c2, rfl, hz2⟩, hb2⟩
    have HB2 := Lib.hid (HB1.out.trans (hb2.mono HB1.out.size))
    have HVR := Lib.hid (HV1.out.next hb2)
    clear hb2 HS HB1 HV1
    obtain ⟨⟨u0, hu0⟩, ⟨u1, hu1⟩⟩ := HVR.out.cells
    have f0 := HVR.out.free 0
    have f1 := HVR.out.free 1
    have hz3 := hz2.put2 HVR.out.sts 0 1 (.bool s2) (.slice p2 n2 c2) (NotInt.bool _)
    have hb3 : Below w.heap.size w ((w2.setCell ⟨w.heap.size + 1, 0, none⟩ (.bool s2)).setCell ⟨w.heap.size + 1, 1, none⟩ (.slice p2 n2 c2)) := (HB2.out.setCell (by show w.heap.size ≤ w.heap.size + 1; omega) _).setCell (by show w.heap.size ≤ w.heap.size + 1; omega) _
    have HZ3 := Lib.hid hz3
    have HB3 := Lib.hid hb3
    clear hz2 hz3 hb3
    go_wp2
    try simp only [Exit.inBlock, Exit.then]
    refine bodyPost_ret (by simp [results, Tryz.results125, go_sem, hu0, hu1]; try rfl) rfl ?_
    exact ⟨⟨s2, p2, n2, c2, rfl, HV.out ▸ HZ3.out⟩, HB3.out⟩
  · obtain rfl : t = !s := by cases s <;> cases t <;> simp_all
    have hsb : (s == !s) = false := by cases s <;> rfl
    clear hst
    by_cases hle : v ≤ u
    · obtain ⟨g, hg⟩ := cmp_ge hle
      have HV := Lib.hid (show sg s (u - v) = x + sg (!s) v by rw [← HX.out, sg_less _ _ _ hle])
      have hC := HC.out
      rw [hg] at hC
      replace HC := Lib.hid hC
      replace HL1 := Lib.hid (HL1.out hle)
      have hgd : decide ((0 : Int) ≤ (g : Int)) = true := decide_eq_true (by omega)
      clear hC hg hle HL2 HP
      go_wp2_with fail
      refine (HC.out _ HB0.out).mono ?_
      rintro e w1 ⟨rfl, hq⟩
      have hbq := quiet_below hq
      have X0 := HA0.out.below_ hbq HA0.out.lt
      have X1 := HA1.out.below_ hbq HA1.out.lt
      have hb0 := HB0.out.trans (hbq.mono HB0.out.size)
      replace hs0 : w.heap.size ≤ w1.heap.size := hb0.size
      clear hq hbq HA0 HA1 HB0 HVR A0 A1 HC
      go_upto_region 5 with (fail)
      have T1 := Sts.of X1 (by intro v hv; simp at hv; rcases hv with rfl | rfl <;> first | exact NotInt.bool _ | exact NotInt.slice _ _ _)
      have hS1 : w1.cell? ⟨w.heap.size, 0, none⟩ = some (.bool s) ∧ w1.cell? ⟨w.heap.size, 1, none⟩ = some (.slice p n c) ∧ w1.cell? ⟨w.heap.size + 1, 0, none⟩ = some (cellOf w1 ⟨w.heap.size + 1, 0, none⟩) ∧ w1.frozen? ⟨w.heap.size + 1, 0, none⟩ = false ∧ Sts w1 (w.heap.size + 1) ∧ w1.cell? ⟨w.heap.size + 1, 1, none⟩ = some (cellOf w1 ⟨w.heap.size + 1, 1, none⟩) ∧ w1.frozen? ⟨w.heap.size + 1, 1, none⟩ = false ∧ Sts w1 (w.heap.size + 1) ∧ Below w.heap.size w w1 ∧ w.heap.size ≤ w1.heap.size := ⟨X0.at_ 0 rfl, X0.at_ 1 rfl, cellOf_some (by rw [X1.at_ 0 rfl]; rfl), X1.free_ 0, T1, cellOf_some (by rw [X1.at_ 1 rfl]; rfl), X1.free_ 1, T1, hb0, hs0⟩
      have hS0 : w1.drew.cell? ⟨w.heap.size, 0, none⟩ = some (.bool s) ∧ w1.drew.cell? ⟨w.heap.size, 1, none⟩ = some (.slice p n c) ∧ w1.drew.cell? ⟨w.heap.size + 1, 0, none⟩ = some (cellOf w1.drew ⟨w.heap.size + 1, 0, none⟩) ∧ w1.drew.frozen? ⟨w.heap.size + 1, 0, none⟩ = false ∧ Sts w1.drew (w.heap.size + 1) ∧ w1.drew.cell? ⟨w.heap.size + 1, 1, none⟩ = some (cellOf w1.drew ⟨w.heap.size + 1, 1, none⟩) ∧ w1.drew.frozen? ⟨w.heap.size + 1, 1, none⟩ = false ∧ Sts w1.drew (w.heap.size + 1) ∧ Below w.heap.size w w1.drew ∧ w.heap.size ≤ w1.drew.heap.size := S2_2_next (Below.refl _ w1).drew hS1
      clear X0 X1 hS1
      go_region_held3 (fun w1 => w1.cell? ⟨w.heap.size, 0, none⟩ = some (.bool s) ∧ w1.cell? ⟨w.heap.size, 1, none⟩ = some (.slice p n c) ∧ w1.cell? ⟨w.heap.size + 1, 0, none⟩ = some (cellOf w1 ⟨w.heap.size + 1, 0, none⟩) ∧ w1.frozen? ⟨w.heap.size + 1, 0, none⟩ = false ∧ Sts w1 (w.heap.size + 1) ∧ w1.cell? ⟨w.heap.size + 1, 1, none⟩ = some (cellOf w1 ⟨w.heap.size + 1, 1, none⟩) ∧ w1.frozen? ⟨w.heap.size + 1, 1, none⟩ = false ∧ Sts w1 (w.heap.size + 1) ∧ Below w.heap.size w w1 ∧ w.heap.size ≤ w1.heap.size)
        (first | with_reducible exact hS0 | (refine S2_2_next (by with_reducible assumption) ?_; assumption) | (refine S2_2_put ?_ ?_ ?_ ?_ ?_ ?_ ?_ ?_ ?_ <;> first | assumption | exact NotInt.bool _ | exact NotInt.slice _ _ _ | (dsimp only; omega) | (simp; done)))
        (first
          | (go_at_call 182; refine (HL1.out _ (S2_2_below (by with_reducible assumption))).mono ?_; rintro e w2 ⟨⟨p1, c1, r1, rfl, hd1, hv1⟩, hb1⟩; have HS := c_signed s p1 c1 _ r1 w2 hd1 (by omega); rw [hv1] at HS; replace HS := Lib.hid HS; clear hd1 hv1)
          | (go_at_call 119; refine HS.out.mono ?_; rintro e w3 ⟨⟨s2, p2, n2, c2, rfl, hz2⟩, hb2⟩; clear hb1; obtain ⟨⟨hR0, hT⟩, ⟨hR1, _⟩⟩ := S2_2_end hb2 (by with_reducible assumption); have hz3 := hz2.put2 hT 0 1 (.bool s2) (.slice p2 n2 c2) (NotInt.bool _); replace hz3 := Lib.hid hz3; clear hz2 hT))
      go_wp2
      try simp only [Exit.inBlock, Exit.then]
      refine bodyPost_ret (by simp [results, Tryz.results125, go_sem, hR0, hR1]; try rfl) rfl ?_
      exact ⟨⟨s2, p2, n2, c2, rfl, HV.out ▸ hz3.out⟩, S2_2_below (by assumption)⟩
    · have hlt : u < v := by omega
      have HV := Lib.hid (show sg (!s) (v - u) = x + sg (!s) v by rw [← HX.out, sg_more _ _ _ (Nat.le_of_lt hlt)])
      have hC := HC.out
      rw [cmp_lt hlt] at hC
      replace HC := Lib.hid hC
      replace HL2 := Lib.hid (HL2.out (Nat.le_of_lt hlt))
      clear hC hlt hle HL1 HP
      go_wp2_with fail
      refine (HC.out _ HB0.out).mono ?_
      rintro e w1 ⟨rfl, hq⟩
      have hbq := quiet_below hq
      have HB1 := Lib.hid (HB0.out.trans (hbq.mono HB0.out.size))
      have HV1 := Lib.hid (HVR.out.next hbq)
      clear hq hbq HA0 HA1 HB0 HVR A0 A1 HC
      go_wp2_with fail
      refine (HL2.out _ HB1.out).mono ?_
      rintro e w3 ⟨⟨p1, c1, r1, rfl, hd1, hv1⟩, hb1⟩
      have HS := c_signed (!s) p1 c1 _ r1 w3 hd1 (by omega)
      rw [hv1] at HS
      replace HS := Lib.hid HS
      have HB3' := Lib.hid (HB1.out.trans (hb1.mono HB1.out.size))
      have HV3 := Lib.hid (HV1.out.next hb1)
      clear hd1 hv1 hb1 HB1 HV1 HL2
      go_wp2_with fail
      refine HS.out.mono ?_
      rintro e w2 ⟨⟨s2, p2, n2, c2, rfl, hz2⟩, hb2⟩
      have HB2 := Lib.hid (HB3'.out.trans (hb2.mono HB3'.out.size))
      have HVR := Lib.hid (HV3.out.next hb2)
      clear hb2 HS HB3' HV3
      obtain ⟨⟨u0, hu0⟩, ⟨u1, hu1⟩⟩ := HVR.out.cells
      have f0 := HVR.out.free 0
      have f1 := HVR.out.free 1
      have hz3 := hz2.put2 HVR.out.sts 0 1 (.bool s2) (.slice p2 n2 c2) (NotInt.bool _)
      have hb3 : Below w.heap.size w ((w2.setCell ⟨w.heap.size + 1, 0, none⟩ (.bool s2)).setCell ⟨w.heap.size + 1, 1, none⟩ (.slice p2 n2 c2)) := (HB2.out.setCell (by show w.heap.size ≤ w.heap.size + 1; omega) _).setCell (by show w.heap.size ≤ w.heap.size + 1; omega) _
      have HZ3 := Lib.hid hz3
      have HB3 := Lib.hid hb3
      clear hz2 hz3 hb3
      go_wp2
      try simp only [Exit.inBlock, Exit.then]
      refine bodyPost_ret (by simp [results, Tryz.results125, go_sem, hu0, hu1]; try rfl) rfl ?_
      exact ⟨⟨s2, p2, n2, c2, rfl, HV.out ▸ HZ3.out⟩, HB3.out⟩
set_option maxHeartbeats 1000000 in
set_option maxRecDepth 100000 in
theorem c_Add (s : Bool) (p : Option Addr) (n c : Nat) (x : Int) (t : Bool) (q : Option Addr) (m d : Nat) (y : Int) (w : World) (h : Zr w s p n c x) (h' : Zr w t q m d y) (hn : n ≤ 17592186044400) (hm : m ≤ 17592186044400) :
    Calls Tryz.prog 73 #[.agg #[.bool s, .slice p n c], .agg #[.bool t, .slice q m d]] w fun e w' => RetZ w' e (x + y) ∧ Below w.heap.size w w' := by
  obtain ⟨l, hl, hl2, KL⟩ := h'.letters (by omega)
  have hC := fun w1 (hb : Below w.heap.size w w1) => c_add s p n c x t q l d y.natAbs w1 (h.keep hb) (KL.out.2.1.keep hb) hl2 hn (by omega)
  rw [KL.out.1] at hC
  have HC := Lib.hid hC
  clear hC hl2 h h'
  go_enter Tryz.func73, Tryz.ntmps73
  go_upto_region 1 with (fail)
  obtain ⟨w0, hw0⟩ : ∃ w0, (((w.alloc (.cells #[.bool s, .slice p n c] 33)).alloc (.cells #[.bool t, .slice q m d] 33)).alloc (.cells #[.bool false, .slice none 0 0] 33)) = w0 := ⟨_, rfl⟩
  rw [hw0]
  obtain ⟨X0, X1, X2, hb0⟩ := box3 w #[.bool s, .slice p n c] 33 #[.bool t, .slice q m d] 33 #[.bool false, .slice none 0 0] 33
  rw [hw0] at X0 X1 X2 hb0
  have hs0 : w.heap.size ≤ w0.heap.size := hb0.size
  clear hw0
  have T2 := Sts.of X2 (by intro v hv; simp at hv; rcases hv with rfl | rfl <;> first | exact NotInt.bool _ | exact NotInt.slice _ _ _)
  have hS1 : w0.cell? ⟨w.heap.size, 0, none⟩ = some (.bool s) ∧ w0.cell? ⟨w.heap.size, 1, none⟩ = some (.slice p n c) ∧ w0.cell? ⟨w.heap.size + 1, 0, none⟩ = some (.bool t) ∧ w0.cell? ⟨w.heap.size + 1, 1, none⟩ = some (.slice q m d) ∧ w0.cell? ⟨w.heap.size + 1 + 1, 0, none⟩ = some (cellOf w0 ⟨w.heap.size + 1 + 1, 0, none⟩) ∧ w0.frozen? ⟨w.heap.size + 1 + 1, 0, none⟩ = false ∧ Sts w0 (w.heap.size + 1 + 1) ∧ w0.cell? ⟨w.heap.size + 1 + 1, 1, none⟩ = some (cellOf w0 ⟨w.heap.size + 1 + 1, 1, none⟩) ∧ w0.frozen? ⟨w.heap.size + 1 + 1, 1, none⟩ = false ∧ Sts w0 (w.heap.size + 1 + 1) ∧ Below w.heap.size w w0 ∧ w.heap.size ≤ w0.heap.size := ⟨X0.at_ 0 rfl, X0.at_ 1 rfl, X1.at_ 0 rfl, X1.at_ 1 rfl, cellOf_some (by rw [X2.at_ 0 rfl]; rfl), X2.free_ 0, T2, cellOf_some (by rw [X2.at_ 1 rfl]; rfl), X2.free_ 1, T2, hb0, hs0⟩
  have hS0 : w0.drew.cell? ⟨w.heap.size, 0, none⟩ = some (.bool s) ∧ w0.drew.cell? ⟨w.heap.size, 1, none⟩ = some (.slice p n c) ∧ w0.drew.cell? ⟨w.heap.size + 1, 0, none⟩ = some (.bool t) ∧ w0.drew.cell? ⟨w.heap.size + 1, 1, none⟩ = some (.slice q m d) ∧ w0.drew.cell? ⟨w.heap.size + 1 + 1, 0, none⟩ = some (cellOf w0.drew ⟨w.heap.size + 1 + 1, 0, none⟩) ∧ w0.drew.frozen? ⟨w.heap.size + 1 + 1, 0, none⟩ = false ∧ Sts w0.drew (w.heap.size + 1 + 1) ∧ w0.drew.cell? ⟨w.heap.size + 1 + 1, 1, none⟩ = some (cellOf w0.drew ⟨w.heap.size + 1 + 1, 1, none⟩) ∧ w0.drew.frozen? ⟨w.heap.size + 1 + 1, 1, none⟩ = false ∧ Sts w0.drew (w.heap.size + 1 + 1) ∧ Below w.heap.size w w0.drew ∧ w.heap.size ≤ w0.drew.heap.size := S4_2_next (Below.refl _ w0).drew hS1
  clear X0 X1 X2 hS1
  go_region_held3 (fun w1 => w1.cell? ⟨w.heap.size, 0, none⟩ = some (.bool s) ∧ w1.cell? ⟨w.heap.size, 1, none⟩ = some (.slice p n c) ∧ w1.cell? ⟨w.heap.size + 1, 0, none⟩ = some (.bool t) ∧ w1.cell? ⟨w.heap.size + 1, 1, none⟩ = some (.slice q m d) ∧ w1.cell? ⟨w.heap.size + 1 + 1, 0, none⟩ = some (cellOf w1 ⟨w.heap.size + 1 + 1, 0, none⟩) ∧ w1.frozen? ⟨w.heap.size + 1 + 1, 0, none⟩ = false ∧ Sts w1 (w.heap.size + 1 + 1) ∧ w1.cell? ⟨w.heap.size + 1 + 1, 1, none⟩ = some (cellOf w1 ⟨w.heap.size + 1 + 1, 1, none⟩) ∧ w1.frozen? ⟨w.heap.size + 1 + 1, 1, none⟩ = false ∧ Sts w1 (w.heap.size + 1 + 1) ∧ Below w.heap.size w w1 ∧ w.heap.size ≤ w1.heap.size)
    (first | with_reducible exact hS0 | (refine S4_2_next (by with_reducible assumption) ?_; assumption) | (refine S4_2_put ?_ ?_ ?_ ?_ ?_ ?_ ?_ ?_ ?_ ?_ ?_ ?_ ?_ <;> first | assumption | exact NotInt.bool _ | exact NotInt.slice _ _ _ | (dsimp only; omega) | (simp; done)))
    (first
      | (go_at_call 124; refine (KL.out.2.2 _ (S4_2_below (by with_reducible assumption))).mono ?_; rintro e w' ⟨rfl, rfl⟩)
      | (go_at_call 125; refine (HC.out _ (S4_2_below (by with_reducible assumption))).mono ?_; rintro e w3 ⟨⟨s2, p2, n2, c2, rfl, hz2⟩, hb2⟩; obtain ⟨⟨hR0, hT⟩, ⟨hR1, _⟩⟩ := S4_2_end hb2 (by with_reducible assumption); have hz3 := hz2.put2 hT 0 1 (.bool s2) (.slice p2 n2 c2) (NotInt.bool _); replace hz3 := Lib.hid hz3; clear hz2 hT))
  go_wp2
  try simp only [Exit.inBlock, Exit.then]
  refine bodyPost_ret (by simp [results, Tryz.results73, go_sem, hR0, hR1]; try rfl) rfl ?_
  exact ⟨⟨s2, p2, n2, c2, rfl, hz3.out⟩, S4_2_below (by assumption)⟩
end Go.Proofs.YthikonjlgljikaaGreatDoor
