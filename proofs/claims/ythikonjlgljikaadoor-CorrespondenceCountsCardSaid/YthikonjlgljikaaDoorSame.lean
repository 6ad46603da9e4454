/- Contracts of the statements' comparisons of lists of matrices and of ints, where the lists are equal. -/
import Derived.Test.YthikonjlgljikaaDoorCosets
namespace Go.Proofs.YthikonjlgljikaaDoor
open Go.RowKit

/-- A slice that reads as a list of cells. -/
def Rd (w : World) (sz : Nat) (v : Value) (n : Nat) (xs : List Value) : Prop :=
  xs.length = n * sz ∧ ((n = 0 ∧ ∃ a c, v = .slice a 0 c) ∨ ∃ g o cap, v = .slice (some ⟨g, o, none⟩) n cap ∧ g < w.heap.size ∧ ∀ j u, xs[j]? = some u → w.cell? ⟨g, o + j, none⟩ = some u)
theorem Rd.of_own {w : World} {B E sz n : Nat} {v : Value} {xs : List Value} (h : w.ownsRow B E sz v n xs) : Rd w sz v n xs := by
  refine ⟨h.1, ?_⟩
  rcases own_shape h with ⟨rfl, rfl, _⟩ | ⟨g, cap, rfl, _, hg, _⟩
  · exact .inl ⟨rfl, _, _, rfl⟩
  · exact .inr ⟨g, 0, cap, rfl, hg, fun j u hj => by rw [Nat.zero_add]; exact own_read h hj⟩
theorem Rd.keep {w w' : World} {sz n : Nat} {v : Value} {xs : List Value} (h : Rd w sz v n xs) (hb : Below w.heap.size w w') : Rd w' sz v n xs := by
  refine ⟨h.1, ?_⟩
  rcases h.2 with h1 | ⟨g, o, cap, e, hg, hc⟩
  · exact .inl h1
  · exact .inr ⟨g, o, cap, e, Nat.lt_of_lt_of_le hg hb.size, fun j u hj => (hb.cell (p := ⟨g, o + j, none⟩) hg).trans (hc j u hj)⟩
theorem flat_at {α : Type} (f : α → List Value) (sz : Nat) (hf : ∀ x, (f x).length = sz) (l : List α) (k : Nat) (h : k < l.length) (i : Nat) (hi : i < sz) : (l.flatMap f)[k * sz + i]? = (f l[k])[i]? := by
  induction l generalizing k with
  | nil => simp at h
  | cons x l ih =>
    rw [List.flatMap_cons]
    cases k with
    | zero => rw [Nat.zero_mul, Nat.zero_add, List.getElem?_append_left (by rw [hf]; exact hi)]; rfl
    | succ k =>
      rw [List.getElem?_append_right (by rw [hf, Nat.succ_mul]; omega), hf, show (k + 1) * sz + i - sz = k * sz + i from by rw [Nat.succ_mul]; omega, ih k (by simpa using h)]
      rfl
/-- The cells of element k. -/
theorem Rd.cells {α : Type} {w : World} {sz g o : Nat} {f : α → List Value} {l : List α} (hf : ∀ x, (f x).length = sz) (hc : ∀ j u, (l.flatMap f)[j]? = some u → w.cell? ⟨g, o + j, none⟩ = some u) {k : Nat} (h : k < l.length) {i : Nat} {u : Value} (hu : (f l[k])[i]? = some u) :
    w.cell? ⟨g, o + (k * sz + i), none⟩ = some u := by
  refine hc _ _ ?_
  have hi : i < sz := by
    rw [← hf l[k]]
    rcases Nat.lt_or_ge i (f l[k]).length with hlt | hge
    · exact hlt
    · rw [List.getElem?_eq_none hge] at hu; cases hu
  rw [flat_at f sz hf l k h i hi]; exact hu

theorem c_Same_eq (v1 v2 : Value) (L : List Pl.Cos) (w : World) (h1 : Rd w 4 v1 L.length (L.flatMap matc)) (h2 : Rd w 4 v2 L.length (L.flatMap matc)) (hl : L.length ≤ 1000000) :
    Calls Tryd.prog 10 #[v1, v2] w fun e w' => e = .returned (.bool true) ∧ ∃ n, w' = w.drewN n := by
  by_cases h0 : L.length = 0
  · have e1 : ∃ a c, v1 = .slice a 0 c := by
      rcases h1.2 with ⟨_, h⟩ | ⟨_, _, _, e, _⟩
      · exact h
      · exact ⟨_, _, by rw [e, h0]⟩
    have e2 : ∃ a c, v2 = .slice a 0 c := by
      rcases h2.2 with ⟨_, h⟩ | ⟨_, _, _, e, _⟩
      · exact h
      · exact ⟨_, _, by rw [e, h0]⟩
    obtain ⟨a1, c1, rfl⟩ := e1
    obtain ⟨a2, c2, rfl⟩ := e2
    clear h1 h2 h0
    go_enter Tryd.func10, Tryd.ntmps10
    go_wp2
    go_loop [5] (fun i => i = .int .i64 0) (fun _ => 0)
    case atStart => rfl
    case round =>
      obtain rfl := hrel
      go_wp2
      go_ret
      exact ⟨rfl, 0, rfl⟩
  · obtain ⟨g1, o1, c1, rfl, _, r1⟩ := h1.2.resolve_left (fun h => h0 h.1)
    obtain ⟨g2, o2, c2, rfl, _, r2⟩ := h2.2.resolve_left (fun h => h0 h.1)
    have R1 := Lib.hid r1
    have R2 := Lib.hid r2
    clear h1 h2 r1 r2 h0
    go_enter Tryd.func10, Tryd.ntmps10
    go_wp2
    go_loopw [5] (fun i wr => ∃ k : Nat, k ≤ L.length ∧ i = .int .i64 k ∧ ∃ n, wr = w.drewN n) (fun i _ => L.length - (intOf i).toNat)
    case atStart => exact ⟨0, Nat.zero_le _, rfl, 0, rfl⟩
    case round =>
      obtain ⟨k, hk, rfl, nr, rfl⟩ := hrel
      by_cases hlt : k < L.length
      · have a0 := Rd.cells (sz := 4) (f := matc) (fun _ => rfl) R1.out hlt (i := 0) rfl
        have a1 := Rd.cells (sz := 4) (f := matc) (fun _ => rfl) R1.out hlt (i := 1) rfl
        have a2 := Rd.cells (sz := 4) (f := matc) (fun _ => rfl) R1.out hlt (i := 2) rfl
        have a3 := Rd.cells (sz := 4) (f := matc) (fun _ => rfl) R1.out hlt (i := 3) rfl
        have b0 := Rd.cells (sz := 4) (f := matc) (fun _ => rfl) R2.out hlt (i := 0) rfl
        have b1 := Rd.cells (sz := 4) (f := matc) (fun _ => rfl) R2.out hlt (i := 1) rfl
        have b2 := Rd.cells (sz := 4) (f := matc) (fun _ => rfl) R2.out hlt (i := 2) rfl
        have b3 := Rd.cells (sz := 4) (f := matc) (fun _ => rfl) R2.out hlt (i := 3) rfl
        rw [← Nat.add_assoc] at a0 a1 a2 a3 b0 b1 b2 b3
        rw [Nat.add_zero] at a0 b0
        generalize ((L[k]).1.1 : Int) = x0 at a0 b0
        generalize ((L[k]).1.2.1 : Int) = x1 at a1 b1
        generalize ((L[k]).1.2.2 : Int) = x3 at a3 b3
        go_wp2
        go_quiet (fail)
        go_wp2
        go_roundw
        case rel => exact ⟨k + 1, by omega, by go_num, _, rfl⟩
        case measure => simp [intOf]; omega
      · have hke : k = L.length := by omega
        subst hke
        go_wp2
        go_ret
        exact ⟨rfl, nr, rfl⟩

theorem facc_flat (L : List Pl.Cos) : L.flatMap facc = (L.map (·.2)).map (Value.int .i64) := by
  induction L with
  | nil => rfl
  | cons x L ih => rw [List.flatMap_cons, ih]; rfl
theorem c_Ints_eq (v1 v2 : Value) (L : List Int) (w : World) (h1 : Rd w 1 v1 L.length (L.map (Value.int .i64))) (h2 : Rd w 1 v2 L.length (L.map (Value.int .i64))) (hl : L.length ≤ 1000000) :
    Calls Tryd.prog 11 #[v1, v2] w fun e w' => e = .returned (.bool true) ∧ ∃ n, w' = w.drewN n := by
  by_cases h0 : L.length = 0
  · have e1 : ∃ a c, v1 = .slice a 0 c := by
      rcases h1.2 with ⟨_, h⟩ | ⟨_, _, _, e, _⟩
      · exact h
      · exact ⟨_, _, by rw [e, h0]⟩
    have e2 : ∃ a c, v2 = .slice a 0 c := by
      rcases h2.2 with ⟨_, h⟩ | ⟨_, _, _, e, _⟩
      · exact h
      · exact ⟨_, _, by rw [e, h0]⟩
    obtain ⟨a1, c1, rfl⟩ := e1
    obtain ⟨a2, c2, rfl⟩ := e2
    clear h1 h2 h0
    go_enter Tryd.func11, Tryd.ntmps11
    go_wp2
    go_loop [5] (fun i => i = .int .i64 0) (fun _ => 0)
    case atStart => rfl
    case round =>
      obtain rfl := hrel
      go_wp2
      go_ret
      exact ⟨rfl, 0, rfl⟩
  · obtain ⟨g1, o1, c1, rfl, _, r1⟩ := h1.2.resolve_left (fun h => h0 h.1)
    obtain ⟨g2, o2, c2, rfl, _, r2⟩ := h2.2.resolve_left (fun h => h0 h.1)
    have R1 := Lib.hid r1
    have R2 := Lib.hid r2
    clear h1 h2 r1 r2 h0
    go_enter Tryd.func11, Tryd.ntmps11
    go_wp2
    go_loopw [5] (fun i wr => ∃ k : Nat, k ≤ L.length ∧ i = .int .i64 k ∧ ∃ n, wr = w.drewN n) (fun i _ => L.length - (intOf i).toNat)
    case atStart => exact ⟨0, Nat.zero_le _, rfl, 0, rfl⟩
    case round =>
      obtain ⟨k, hk, rfl, nr, rfl⟩ := hrel
      by_cases hlt : k < L.length
      · obtain ⟨x, hx⟩ : ∃ x, (L.map (Value.int .i64))[k]? = some (.int .i64 x) := ⟨L[k], by simp [List.getElem?_eq_getElem hlt]⟩
        have a0 := R1.out k _ hx
        have b0 := R2.out k _ hx
        clear hx
        go_wp2
        go_quiet (fail)
        go_wp2
        go_roundw
        case rel => exact ⟨k + 1, by omega, by go_num, _, rfl⟩
        case measure => simp [intOf]; omega
      · have hke : k = L.length := by omega
        subst hke
        go_wp2
        go_ret
        exact ⟨rfl, nr, rfl⟩

theorem awake_E : Pl.cosE 3 3 (-3) 2 = 0 := by decide +kernel
theorem awake_L : Pl.cosL (Pl.kroP (-3)) 3 3 (-3) 2 = [((1, 0, 2), 1), ((1, 1, 2), 1), ((2, 0, 1), -1)] := by decide +kernel
theorem rd_new (w : World) (E sz n : Nat) (cs : Array Value) (h : cs.size = n * sz) : Rd (w.alloc (.cells cs E)) sz (.slice (some ⟨w.heap.size, 0, none⟩) n n) n cs.toList :=
  ⟨by simpa using h, .inr ⟨w.heap.size, 0, n, rfl, by simp, fun j u hj => by rw [Nat.zero_add, (Blk.new w E cs).cell_ j]; simpa using hj⟩⟩
set_option maxRecDepth 100000 in
theorem c_awake46 (w : World) (hT : Tab w) :
    Calls Tryd.prog 7 #[] w fun e w' => e = .returned (.bool true) ∧ Below w.heap.size w w' := by
  have CC := c_Cosets 3 3 (-3) 2 w hT
  rw [awake_E, awake_L] at CC
  have HC := Lib.hid CC
  clear CC
  go_enter Tryd.func7, Tryd.ntmps7
  go_wp2_with fail
  refine HC.out.mono ?_
  rintro en w1 ⟨⟨v1, v2, rfl, htwo⟩, hb1⟩
  have hr1 := Rd.of_own htwo.mats
  have hr2 := Rd.of_own htwo.facs
  rw [facc_flat] at hr2
  have HR1 := Lib.hid hr1
  have HR2 := Lib.hid hr2
  have HB1 := Lib.hid hb1
  clear htwo hr1 hr2 hb1
  go_wp2_with fail
  refine (c_Same_eq v1 _ [((1, 0, 2), 1), ((1, 1, 2), 1), ((2, 0, 1), -1)] _ (HR1.out.keep ((Below.refl _ _).alloc (Nat.le_refl _) _)) (rd_new w1 _ 4 3 _ rfl) (by decide)).mono ?_
  rintro en w2 ⟨rfl, hq⟩
  have hb2 := quiet_below hq
  simp only [World.size_alloc] at hb2
  have W2 : Below w1.heap.size w1 w2 := ((Below.refl _ _).alloc (Nat.le_refl _) _).trans (hb2.mono (by omega))
  have HW2 := Lib.hid W2
  clear hq hb2 W2
  go_wp2_with fail
  refine (c_Ints_eq v2 _ [1, 1, -1] _ ((HR2.out.keep HW2.out).keep ((Below.refl _ _).alloc (Nat.le_refl _) _)) (rd_new w2 _ 1 3 _ rfl) (by decide)).mono ?_
  rintro en w3 ⟨rfl, hq⟩
  have hb3 := quiet_below hq
  simp only [World.size_alloc] at hb3
  have W3 : Below w2.heap.size w2 w3 := ((Below.refl _ _).alloc (Nat.le_refl _) _).trans (hb3.mono (by omega))
  have HW3 := Lib.hid W3
  clear hq hb3 W3
  go_wp2
  go_ret
  have s1 := HB1.out.size
  have s2 := HW2.out.size
  exact ⟨rfl, (HB1.out.trans (HW2.out.mono s1)).trans (HW3.out.mono (by omega))⟩
theorem cos_len (N k D n : Int) (chi : Nat → Int) : (Pl.cosL chi N k D n).length ≤ 1000000 := by
  unfold Pl.cosL
  split
  · rename_i h
    obtain ⟨_, h2, h3⟩ := Pl.cosE_ok h
    have h4 := Pl.cosAt_len chi N.toNat n.toNat n.toNat
    have h5 : n.toNat * n.toNat ≤ 128 * 128 := Nat.mul_le_mul (by omega) (by omega)
    omega
  · decide
set_option maxRecDepth 100000 in
/-- The statement's function returns true. -/
theorem c_law (N k D n : Int) (w : World) (hT : Tab w) :
    Calls Tryd.prog 3 #[spec N k D, .int .i64 n] w fun e w' => e = .returned (.bool true) ∧ Below w.heap.size w w' := by
  have HT := Lib.hid hT
  clear hT
  obtain ⟨E, hE⟩ : ∃ E, Pl.cosE N k D n = E := ⟨_, rfl⟩
  obtain ⟨L, hL⟩ : ∃ L, Pl.cosL (Pl.kroP D) N k D n = L := ⟨_, rfl⟩
  have hL2 : Pl.cosL (Pl.chiR N.toNat D) N k D n = L := by rw [← Pl.cosL_eq, hL]
  have hlen : L.length ≤ 1000000 := by rw [← hL]; exact cos_len _ _ _ _ _
  have C1 := fun w hT => c_Cosets N k D n w hT
  have C2 := fun w => c_Cosets46 N k D n w
  rw [hE, hL] at C1
  rw [hE, hL2] at C2
  have H1 := Lib.hid C1
  have H2 := Lib.hid C2
  clear C1 C2 hE hL hL2
  go_enter Tryd.func3, Tryd.ntmps3
  go_wp2_with fail
  refine (c_awake46 _ (HT.out.below ((Below.refl _ _).alloc (Nat.le_refl _) _))).mono ?_
  rintro en w1 ⟨rfl, hb1⟩
  simp only [World.size_alloc] at hb1
  have B1 : Blk w1 w.heap.size 23 #[.int .i64 N, .int .i64 k, .int .i64 D] := (Blk.new w _ _).below_ hb1 (by omega)
  have W1 : Below w.heap.size w w1 := ((Below.refl _ _).alloc (Nat.le_refl _) _).trans (hb1.mono (by omega))
  have d0 : w1.cell? ⟨w.heap.size, 0, none⟩ = some (.int .i64 N) := B1.at_ 0 rfl
  have d1 : w1.cell? ⟨w.heap.size, 1, none⟩ = some (.int .i64 k) := B1.at_ 1 rfl
  have d2 : w1.cell? ⟨w.heap.size, 2, none⟩ = some (.int .i64 D) := B1.at_ 2 rfl
  have HB1 := Lib.hid B1
  have HW1 := Lib.hid W1
  clear hb1 B1 W1
  go_wp2_with fail
  refine (H1.out _ (HT.out.below HW1.out)).mono ?_
  rintro en w2 ⟨⟨v1, v2, rfl, ht⟩, hb2⟩
  have W2 : Below w.heap.size w w2 := HW1.out.trans (hb2.mono HW1.out.size)
  have B2 : Blk w2 w.heap.size 23 #[.int .i64 N, .int .i64 k, .int .i64 D] := HB1.out.below_ hb2 HB1.out.lt
  have e0 : w2.cell? ⟨w.heap.size, 0, none⟩ = some (.int .i64 N) := B2.at_ 0 rfl
  have e1 : w2.cell? ⟨w.heap.size, 1, none⟩ = some (.int .i64 k) := B2.at_ 1 rfl
  have e2 : w2.cell? ⟨w.heap.size, 2, none⟩ = some (.int .i64 D) := B2.at_ 2 rfl
  have HT1 := Lib.hid ht
  have HW2 := Lib.hid W2
  have HB2 := Lib.hid B2
  clear hb2 W2 ht B2 d0 d1 d2
  go_wp2_with fail
  refine (H2.out _).mono ?_
  rintro en w3 ⟨⟨v3, v4, rfl, ht⟩, hb3⟩
  have W3 : Below w.heap.size w w3 := HW2.out.trans (hb3.mono HW2.out.size)
  have HT2 := Lib.hid ht
  have HT3 := Lib.hid (HT1.out.keep hb3)
  have HW3 := Lib.hid W3
  clear hb3 W3 ht e0 e1 e2
  go_wp2_with fail
  refine (c_Same_eq v1 v3 L w3 (Rd.of_own HT3.out.mats) (Rd.of_own HT2.out.mats) hlen).mono ?_
  rintro en w4 ⟨rfl, hq⟩
  have hb4 := quiet_below hq
  have W4 : Below w.heap.size w w4 := HW3.out.trans (hb4.mono HW3.out.size)
  have R1 := Rd.of_own (HT3.out.keep hb4).facs
  have R2 := Rd.of_own (HT2.out.keep hb4).facs
  rw [facc_flat, ← List.length_map (f := fun x : Pl.Cos => x.2)] at R1 R2
  have HR1 := Lib.hid R1
  have HR2 := Lib.hid R2
  have HW4 := Lib.hid W4
  clear hq hb4 W4 R1 R2
  go_wp2_with fail
  refine (c_Ints_eq v2 v4 (L.map (·.2)) w4 HR1.out HR2.out (by rw [List.length_map]; exact hlen)).mono ?_
  rintro en w5 ⟨rfl, hq⟩
  have hb5 := quiet_below hq
  have W5 : Below w.heap.size w w5 := HW4.out.trans (hb5.mono HW4.out.size)
  have HW5 := Lib.hid W5
  clear hq hb5 W5
  go_wp2
  go_ret
  exact ⟨by simp, HW5.out⟩
end Go.Proofs.YthikonjlgljikaaDoor
