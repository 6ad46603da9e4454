/- What the arguments of CorrespondenceImages are: a path opened, and the arguments read again. -/
import Derived.Test.YthikonjlgljikaaGreatDoorIm440
import Derived.ChangeSlices
import Derived.Deep.Slices
import Derived.Deep.Strs
import Derived.ReadAgain
import Derived.Lib.SmallJoins
namespace Go.Proofs.YthikonjlgljikaaGreatDoor
open Go.RowKit Go.ChangeShapes Go.WideShapes Go.Deep

theorem cells31 : Tryz.prog.cellsOf 31 = 1 := by kernel_rfl
theorem cells187 : Tryz.prog.cellsOf 187 = 1 := by kernel_rfl
theorem cellsBool : Tryz.prog.cellsOf 4 = 1 := by kernel_rfl
theorem cells33 : Tryz.prog.cellsOf 33 = 2 := by kernel_rfl
theorem cells35 : Tryz.prog.cellsOf 35 = 4 := by kernel_rfl
theorem cells24 : Tryz.prog.cellsOf 24 = 1 := by kernel_rfl
theorem cells26 : Tryz.prog.cellsOf 26 = 2 := by kernel_rfl
theorem cells28 : Tryz.prog.cellsOf 28 = 5 := by kernel_rfl
theorem cells3 : Tryz.prog.cellsOf 3 = 1 := by kernel_rfl

theorem spot_of {w : World} {a : Addr} {v : Value} (h : w.cell? a = some v) : a.spot = none := by
  cases hsp : a.spot with
  | none => rfl
  | some s =>
    simp only [World.cell?] at h
    split at h
    · simp [hsp] at h
    · cases h
theorem addr_of {w : World} {a : Addr} {v : Value} (h : w.cell? (a.add 0) = some v) : ∃ g o, a = ⟨g, o, none⟩ ∧ g < w.heap.size := by
  have e : a.add 0 = a := by unfold Addr.add; rw [if_pos rfl]
  rw [e] at h
  have h1 := spot_of h
  have h2 := World.block_lt_of_cell? w a h
  obtain ⟨g, o, s⟩ := a
  dsimp only at h1 h2
  subst h1
  exact ⟨g, o, rfl, h2⟩
theorem wf_lo {k : IntKind} {n : Int} (h : (Lit.int k n).wf = true) : k.min ≤ n ∧ n ≤ k.max := by simpa [Lit.wf] using h

section
variable {H : Type} {enc : TypeId × Value → H} {w : World} {sp : Nat → Bool} {hd : Bool}

theorem open_dg {n : Nat} {v : Value} {y : DataW H × List MemPlace} (h : DataW.trod enc Tryz.prog w 0 sp hd n 31 [v] = some y) : ∃ p m c a, v = .slice p m c ∧ Dg w p c m a := by
  rcases open_ints u32U Tryz.underlying187 cells187 h with ⟨h1, _⟩ | ⟨a, len, cap, zs, h1, _, h3, _, h5, _, h7, h8⟩
  · simp at h1
    exact ⟨none, 0, 0, fun _ => 0, h1, Nat.le_refl _, fun j hj => absurd hj (Nat.not_lt_zero _), .inl rfl⟩
  · simp at h1
    have hle : len ≤ zs.length := by rw [h5]; split <;> omega
    have hwf : ∀ j, j < zs.length → 0 ≤ zs.getD j 0 ∧ zs.getD j 0 ≤ 4294967295 := by
      intro j hj
      have h9 := wf_lo (h8 (zs.getD j 0) (by rw [show zs.getD j 0 = zs[j] by simp [hj]]; exact List.getElem_mem hj))
      exact h9
    refine ⟨some a, len, cap, fun i => (zs.getD i 0).toNat, h1, h3, fun j hj => ?_, ?_⟩
    · have := hwf j (by omega)
      omega
    · rcases Nat.eq_zero_or_pos len with h0 | h0
      · exact .inl h0
      · obtain ⟨g, o, rfl, hg⟩ := addr_of (h7 0 (by omega))
        refine .inr ⟨g, o, rfl, hg, fun j hj => ?_⟩
        have h9 := h7 j (by omega)
        rw [Addr.add_lit] at h9
        rw [h9]
        have := hwf j (by omega)
        congr 2
        omega
theorem open_zr {n : Nat} {v0 v1 : Value} {y : DataW H × List MemPlace} (h : DataW.trod enc Tryz.prog w 0 sp hd n 33 [v0, v1] = some y) : ∃ s p m c x, v0 = .bool s ∧ v1 = .slice p m c ∧ Zr w s p m c x := by
  obtain ⟨y0, y1, n', _, _, h0, h1⟩ := trod_struct2 Tryz.underlying33 h
  dsimp only at h0 h1
  rw [cellsBool] at h0
  rw [cells31] at h1
  obtain ⟨s, hs, _⟩ := DataW.trod_bool Tryz.underlying4 h0
  obtain ⟨p, m, c, a, hv, hdg⟩ := open_dg (v := v1) h1
  simp at hs
  exact ⟨s, p, m, c, _, hs, hv, a, hdg, rfl⟩
theorem open_rat {n : Nat} {v0 v1 v2 v3 : Value} {y : DataW H × List MemPlace} (h : DataW.trod enc Tryz.prog w 0 sp hd n 35 [v0, v1, v2, v3] = some y) :
    ∃ s p m c t q k d x z, v0 = .bool s ∧ v1 = .slice p m c ∧ v2 = .bool t ∧ v3 = .slice q k d ∧ IsA x z w s p m c t q k d := by
  obtain ⟨y0, y1, n', _, _, h0, h1⟩ := trod_struct2 Tryz.underlying35 h
  dsimp only at h0 h1
  rw [cells33] at h0 h1
  obtain ⟨s, p, m, c, x, e0, e1, hx⟩ := open_zr (v0 := v0) (v1 := v1) h0
  obtain ⟨t, q, k, d, z, e2, e3, hz⟩ := open_zr (v0 := v2) (v1 := v3) h1
  exact ⟨s, p, m, c, t, q, k, d, x, z, e0, e1, e2, e3, hx, hz⟩
theorem open_ql {n : Nat} {v : Value} {y : DataW H × List MemPlace} (h : DataW.trod enc Tryz.prog w 0 sp hd n 24 [v] = some y) : ∃ (len : Nat) (x z : Nat → Int), QL (fun j => IsA (x j) (z j)) w v len := by
  rcases open_slice Tryz.underlying24 h with ⟨h1, _⟩ | ⟨a, len, cap, m, n', D, Pl, h1, _, h3, _, h5, _, h7⟩
  · simp at h1
    exact ⟨0, fun _ => 0, fun _ => 0, .inl ⟨rfl, none, 0, h1⟩⟩
  · simp at h1
    subst h1
    have hle : len ≤ m := by rw [h5]; split <;> omega
    rw [cells35] at h7
    rcases Nat.eq_zero_or_pos len with h0 | h0
    · subst h0
      exact ⟨0, fun _ => 0, fun _ => 0, .inl ⟨rfl, some a, cap, rfl⟩⟩
    · have hcell : ∀ i, i < len → ∃ v0 v1 v2 v3 y', (w.cell? (a.add (i * 4 + 0)) = some v0 ∧ w.cell? (a.add (i * 4 + 1)) = some v1 ∧ w.cell? (a.add (i * 4 + 2)) = some v2 ∧ w.cell? (a.add (i * 4 + 3)) = some v3) ∧ DataW.trod enc Tryz.prog w 0 sp hd n' 35 [v0, v1, v2, v3] = some y' := by
        intro i hi
        obtain ⟨cs, e1, e2⟩ := h7 i (by omega)
        obtain ⟨_, hl, hc⟩ := World.cells?_some e1
        match cs, hl with
        | [v0, v1, v2, v3], _ =>
          have c0 := hc 0 (by omega)
          have c1 := hc 1 (by omega)
          have c2 := hc 2 (by omega)
          have c3 := hc 3 (by omega)
          rw [add_add] at c0 c1 c2 c3
          exact ⟨v0, v1, v2, v3, _, ⟨c0, c1, c2, c3⟩, e2⟩
      obtain ⟨v0, _, _, _, _, ⟨c0, _⟩, _⟩ := hcell 0 h0
      obtain ⟨g, o, rfl, hg⟩ := addr_of (w := w) (a := a) (v := v0) (by simpa using c0)
      have hel : ∀ i, i < len → ∃ xz : Int × Int, QE (IsA xz.1 xz.2) w g (o + i * 4) := by
        intro i hi
        obtain ⟨v0, v1, v2, v3, y', ⟨c0, c1, c2, c3⟩, ht⟩ := hcell i hi
        rw [Addr.add_lit] at c0 c1 c2 c3
        obtain ⟨s, p, m', c, t, q, k, d, x, z, rfl, rfl, rfl, rfl, hxz⟩ := open_rat ht
        exact ⟨(x, z), s, p, m', c, t, q, k, d, c0, c1, c2, c3, hxz⟩
      obtain ⟨f, hf⟩ := choose_lt hel
      exact ⟨len, fun i => (f i).1, fun i => (f i).2, .inr ⟨g, o, cap, rfl, hg, hf⟩⟩
theorem array5 {α : Type} {cs : Array α} (h : cs.size = 5) : ∃ c0 c1 c2 c3 c4, cs = #[c0, c1, c2, c3, c4] := by
  obtain ⟨l⟩ := cs
  match l, h with
  | [c0, c1, c2, c3, c4], _ => exact ⟨c0, c1, c2, c3, c4, rfl⟩
theorem agg5 {P : Program} {r : Reach} {b0 : Nat} {t : TypeId} {fs : Array Field} {v : Value} (ht : P.underlying t = some (.struct fs)) (hc : P.cellsOf t = 5) (hv : Value.okWide P w r b0 t v) : ∃ v0 v1 v2 v3 v4, v = .agg #[v0, v1, v2, v3, v4] := by
  obtain ⟨cs, rfl, hsz⟩ := okWide_struct ht hv
  obtain ⟨c0, c1, c2, c3, c4, rfl⟩ := array5 (hsz.trans hc)
  exact ⟨c0, c1, c2, c3, c4, rfl⟩
set_option maxRecDepth 100000 in
/-- A path opened. -/
theorem open_path {r : Reach} {b0 : Nat} {v : Value} {d : DataW H} {ps : List MemPlace} (hv : Value.okWide Tryz.prog w r b0 28 v) (h : DataW.Trod enc Tryz.prog w 0 sp hd 28 v d ps) :
    ∃ (v0 : Value) (p q p' q' : Int) (len : Nat) (x z : Nat → Int), v = .agg #[v0, .int .i64 p, .int .i64 q, .int .i64 p', .int .i64 q'] ∧ QL (fun j => IsA (x j) (z j)) w v0 len ∧ (-9223372036854775808 ≤ p ∧ p ≤ 9223372036854775807) ∧ (-9223372036854775808 ≤ q ∧ q ≤ 9223372036854775807) ∧ (-9223372036854775808 ≤ p' ∧ p' ≤ 9223372036854775807) ∧ (-9223372036854775808 ≤ q' ∧ q' ≤ 9223372036854775807) := by
  obtain ⟨v0, v1, v2, v3, v4, rfl⟩ := agg5 Tryz.underlying28 cells28 hv
  clear hv
  obtain ⟨fuel, hf⟩ := h
  obtain ⟨y0, y1, y2, n, _, _, h0, h1, h2⟩ := trod_struct3 Tryz.underlying28 hf
  dsimp only at h0 h1 h2
  rw [cells24] at h0
  rw [cells26] at h1 h2
  have g0 : DataW.trod enc Tryz.prog w 0 sp hd n 24 [v0] = some y0 := h0
  have g1 : DataW.trod enc Tryz.prog w 0 sp hd n 26 [v1, v2] = some y1 := h1
  have g2 : DataW.trod enc Tryz.prog w 0 sp hd n 26 [v3, v4] = some y2 := h2
  clear h0 h1 h2 hf
  obtain ⟨len, x, z, hq⟩ := open_ql (v := v0) g0
  obtain ⟨z0, z1, n1, _, _, k0, k1⟩ := trod_struct2 (cs := [v1, v2]) Tryz.underlying26 g1
  obtain ⟨z2, z3, n2, _, _, k2, k3⟩ := trod_struct2 (cs := [v3, v4]) Tryz.underlying26 g2
  dsimp only at k0 k1 k2 k3
  rw [cells3] at k0 k1 k2 k3
  obtain ⟨p, e0, _, w0⟩ := DataW.trod_int Tryz.underlying3 k0
  obtain ⟨q, e1, _, w1⟩ := DataW.trod_int Tryz.underlying3 k1
  obtain ⟨p', e2, _, w2⟩ := DataW.trod_int Tryz.underlying3 k2
  obtain ⟨q', e3, _, w3⟩ := DataW.trod_int Tryz.underlying3 k3
  simp at e0 e1 e2 e3
  subst e0 e1 e2 e3
  exact ⟨v0, p, q, p', q', len, x, z, rfl, hq, wf_lo w0, wf_lo w1, wf_lo w2, wf_lo w3⟩
theorem trodAll_carry {P : Program} {W W' : World} : ∀ {ts : List TypeId} {vs : List Value} {ds : List (DataW H)} {ps : List MemPlace}, DataW.TrodAll enc P W 0 sp hd ts vs ds ps → (∀ p ∈ ps, W.sameAt W' p) → DataW.TrodAll enc P W' 0 sp hd ts vs ds ps
  | [], [], [], _, h, _ => h
  | _ :: _, _ :: _, _ :: _, _, ⟨p, q, ⟨n, h1⟩, h2, e⟩, hs => ⟨p, q, ⟨n, DataW.trod_carry n _ _ _ h1 (fun x hx => hs x (by rw [e]; exact List.mem_append_left _ hx))⟩, trodAll_carry h2 (fun x hx => hs x (by rw [e]; exact List.mem_append_right _ hx)), e⟩
end
theorem kidsAll : Kids Tryz.prog (· < Tryz.prog.types.size) := kids_rows (by kernel_rfl) (by kernel_rfl)
theorem fullAll : ∀ t e, t < Tryz.prog.types.size → Tryz.prog.underlying t = some (.slice e) → 0 < Tryz.prog.cellsOf e := slices_full_of Tryz.prog (by kernel_rfl)
end Go.Proofs.YthikonjlgljikaaGreatDoor
