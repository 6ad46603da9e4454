/- What the arguments of the laws with lists of small numbers are: a list opened, and the arguments read again. -/
import Derived.Test.YthikonjlgljikaaGreatDoorLs01
import Derived.ChangeSlices
import Derived.Deep.Slices
import Derived.Deep.Strs
import Derived.ReadAgain
import Derived.Lib.SmallJoins
namespace Go.Proofs.YthikonjlgljikaaGreatDoor
open Go.RowKit Go.ChangeShapes Go.WideShapes Go.Deep

theorem spot_of {w : World} {a : Addr} {v : Value} (h : w.cell? a = some v) : a.spot = none := by
  cases hsp : a.spot with
  | none => rfl
  | some s =>
    simp only [World.cell?] at h
    split at h
    · simp [hsp] at h
    · cases h
theorem addr_of {w : World} {a : Addr} {v : Value} (h : w.cell? (a.add 0) = some v) : ∃ g o, a = ⟨g, o, none⟩ ∧ g < w.heap.size := by
  have e : a.add 0 = a := by unfold Addr.add; rw [if_pos rfl]
  rw [e] at h
  have h1 := spot_of h
  have h2 := World.block_lt_of_cell? w a h
  obtain ⟨g, o, s⟩ := a
  dsimp only at h1 h2
  subst h1
  exact ⟨g, o, rfl, h2⟩
theorem wf_lo {k : IntKind} {n : Int} (h : (Lit.int k n).wf = true) : k.min ≤ n ∧ n ≤ k.max := by simpa [Lit.wf] using h
theorem cells8 : Tryz.prog.cellsOf 69 = 1 := by kernel_rfl
section
variable {H : Type} {enc : TypeId × Value → H} {w : World} {sp : Nat → Bool} {hd : Bool}
set_option maxRecDepth 100000 in
/-- A list of small numbers opened. -/
theorem open_i8 {r : Reach} {b0 : Nat} {v : Value} {d : DataW H} {ps : List MemPlace} (hv : Value.okWide Tryz.prog w r b0 68 v) (h : DataW.Trod enc Tryz.prog w 0 sp hd 68 v d ps) :
    ∃ (p : Option Addr) (ln c : Nat) (x : Nat → Int), v = .slice p ln c ∧ (∀ k, k < ln → ∃ g o, p = some ⟨g, o, none⟩ ∧ g < w.heap.size ∧ w.cell? ⟨g, o + k, none⟩ = some (.int .i8 (x k))) ∧ ∀ k, k < ln → -128 ≤ x k ∧ x k ≤ 127 := by
  obtain ⟨p, ln, c, rfl⟩ := okWide_slice Tryz.underlying68 hv
  obtain ⟨fuel, hf⟩ := h
  rcases open_ints Tryz.underlying68 Tryz.underlying69 cells8 hf with ⟨h1, _⟩ | ⟨a, len, cap, zs, h1, _, h3, _, h5, _, h7, h8⟩
  · have h2 : Value.slice p ln c = .slice none 0 0 := by
      have h0 : [Value.slice p ln c] = [.slice none 0 0] := h1
      injection h0
    injection h2 with e1 e2 e3
    subst e1 e2 e3
    exact ⟨none, 0, 0, fun _ => 0, rfl, fun k hk => absurd hk (Nat.not_lt_zero _), fun k hk => absurd hk (Nat.not_lt_zero _)⟩
  · have h2 : Value.slice p ln c = .slice (some a) len cap := by
      have h0 : [Value.slice p ln c] = [.slice (some a) len cap] := h1
      injection h0
    injection h2 with e1 e2 e3
    subst e1 e2 e3
    have hle : ln ≤ zs.length := by rw [h5]; split <;> omega
    refine ⟨some a, ln, c, fun i => zs.getD i 0, rfl, fun k hk => ?_, fun k hk => ?_⟩
    · obtain ⟨g, o, rfl, hg⟩ := addr_of (h7 0 (by omega))
      have h9 := h7 k (by omega)
      rw [Addr.add_lit] at h9
      exact ⟨g, o, rfl, hg, h9⟩
    · have hk2 : k < zs.length := by omega
      have e : zs.getD k 0 = zs[k] := by rw [List.getD_eq_getElem?_getD, List.getElem?_eq_getElem hk2]; rfl
      have h9 := wf_lo (h8 (zs.getD k 0) (by rw [e]; exact List.getElem_mem hk2))
      exact h9
theorem trodAll_carry {P : Program} {W W' : World} : ∀ {ts : List TypeId} {vs : List Value} {ds : List (DataW H)} {ps : List MemPlace}, DataW.TrodAll enc P W 0 sp hd ts vs ds ps → (∀ p ∈ ps, W.sameAt W' p) → DataW.TrodAll enc P W' 0 sp hd ts vs ds ps
  | [], [], [], _, h, _ => h
  | _ :: _, _ :: _, _ :: _, _, ⟨p, q, ⟨n, h1⟩, h2, e⟩, hs => ⟨p, q, ⟨n, DataW.trod_carry n _ _ _ h1 (fun x hx => hs x (by rw [e]; exact List.mem_append_left _ hx))⟩, trodAll_carry h2 (fun x hx => hs x (by rw [e]; exact List.mem_append_right _ hx)), e⟩
end
theorem kidsAll : Kids Tryz.prog (· < Tryz.prog.types.size) := kids_rows (by kernel_rfl) (by kernel_rfl)
theorem fullAll : ∀ t e, t < Tryz.prog.types.size → Tryz.prog.underlying t = some (.slice e) → 0 < Tryz.prog.cellsOf e := slices_full_of Tryz.prog (by kernel_rfl)
end Go.Proofs.YthikonjlgljikaaGreatDoor
