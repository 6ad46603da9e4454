/- Contract of Matrix: the coordinates of all symbols, row by row. Contracts of halfplanebase: CopyInt, CopyRat, CopyRats of normalized numbers. -/
import Derived.Test.YthikonjlgljikaaGreatDoorLs37
import Derived.Test.YthikonjlgljikaaGreatDoorLs44
import Derived.Test.YthikonjlgljikaaGreatDoorLs25
namespace Go.Proofs.YthikonjlgljikaaGreatDoor
set_option linter.unusedSimpArgs false
open Go.RowKit Eli

theorem QRow.cellOf {F : Nat → FP} {w : World} {g N : Nat} (h : QRow F w g N N) {i : Nat} (hi : i < N * 4) : w.cell? ⟨g, i, none⟩ = some (cellOf w ⟨g, i, none⟩) := by
  obtain ⟨u, hu⟩ := Option.isSome_iff_exists.1 (h.has i hi)
  rw [hu, cellOf_eq hu]
theorem QRow.shape {F : Nat → FP} {w : World} {g N : Nat} (h : QRow F w g N N) {u : Value} (hu : u ∈ rowCells w g (N * 4)) : (∃ s, u = .bool s) ∨ ∃ p n c, u = .slice p n c := by
  obtain ⟨i, hj⟩ := List.getElem?_of_mem hu
  have hi := rowCells_lt hj
  rw [rowCells_get hi] at hj
  injection hj with hj
  subst hj
  obtain ⟨s, p, n, c, t, q, m, d, e0, e1, e2, e3, _⟩ := h.val (i / 4) (by omega)
  rcases (by omega : i % 4 = 0 ∨ i % 4 = 1 ∨ i % 4 = 2 ∨ i % 4 = 3) with h4 | h4 | h4 | h4
  · rw [show i / 4 * 4 = i by omega] at e0
    exact .inl ⟨s, cellOf_eq e0⟩
  · rw [show i / 4 * 4 + 1 = i by omega] at e1
    exact .inr ⟨p, n, c, cellOf_eq e1⟩
  · rw [show i / 4 * 4 + 2 = i by omega] at e2
    exact .inl ⟨t, cellOf_eq e2⟩
  · rw [show i / 4 * 4 + 3 = i by omega] at e3
    exact .inr ⟨q, m, d, cellOf_eq e3⟩
theorem QRow.one {F : Nat → FP} {w : World} {g N : Nat} (h : QRow F w g N N) : ∀ u ∈ rowCells w g (N * 4), u.oneCell' = true := by
  intro u hu
  rcases h.shape hu with ⟨s, rfl⟩ | ⟨p, n, c, rfl⟩ <;> rfl
theorem QRow.cells {F : Nat → FP} {w : World} {g N : Nat} (h : QRow F w g N N) : ∀ (j : Nat) (u : Value), (rowCells w g (N * 4))[j]? = some u → w.cell? ⟨g, j, none⟩ = some u := by
  intro j u hj
  have hl := rowCells_lt hj
  rw [rowCells_get hl] at hj
  rw [h.cellOf hl, hj]
/-- A row behind a row. -/
theorem OwnQ.more {F R : Nat → FP} (hF : ∀ j, Solid (F j)) {W w' : World} {B n m g : Nat} {v v' : Value} {xs : List Value} (h1 : OwnK NotInt W B 35 4 v n xs) (h2 : ∀ j, j < n → QX (F j) W xs (j * 4))
    (hr : QRow R W g m m) (h3 : OwnK NotInt w' B 35 4 v' (n + m) (xs ++ rowCells W g (m * 4))) (hg : W.grownBy w' v.ownBlock) (e2 : ∀ j, j < m → F (n + j) = R j) : OwnQ F w' B v' (n + m) := by
  have h32 := I32.grown (K := NotInt) (fun x => not_int32 x) h1.2 hg
  refine ⟨_, h3, fun j hj => ?_⟩
  by_cases hjn : j < n
  · exact ((h2 j hjn).i32 (hF j) h32).app
  · obtain ⟨k, rfl⟩ : ∃ k, j = n + k := ⟨j - n, by omega⟩
    have hk : k < m := by omega
    have hl : xs.length = n * 4 := h1.1.1
    obtain ⟨s, p, c, d, t, q, e, f, c0, c1, c2, c3, hz⟩ := hr.val k hk
    rw [← e2 k hk] at hz
    refine ⟨s, p, c, d, t, q, e, f, ?_, ?_, ?_, ?_, hF _ _ _ _ _ _ _ _ _ _ _ h32 hz⟩
    · rw [List.getElem?_append_right (by omega), hl, show (n + k) * 4 - n * 4 = k * 4 by omega, rowCells_get (by omega), cellOf_eq c0]
    · rw [List.getElem?_append_right (by omega), hl, show (n + k) * 4 + 1 - n * 4 = k * 4 + 1 by omega, rowCells_get (by omega), cellOf_eq c1]
    · rw [List.getElem?_append_right (by omega), hl, show (n + k) * 4 + 2 - n * 4 = k * 4 + 2 by omega, rowCells_get (by omega), cellOf_eq c2]
    · rw [List.getElem?_append_right (by omega), hl, show (n + k) * 4 + 3 - n * 4 = k * 4 + 3 by omega, rowCells_get (by omega), cellOf_eq c3]
/-- The box of a matrix under way: its numbers of rows and columns and the entries so far. -/
structure MatAt (F : Nat → FP) (w : World) (go B R C m : Nat) : Prop where
  lt : go < B
  hB : B ≤ w.heap.size
  c0 : w.cell? ⟨go, 0, none⟩ = some (.int .i64 (R : Int))
  c1 : w.cell? ⟨go, 1, none⟩ = some (.int .i64 (C : Int))
  c2 : ∃ p c, w.cell? ⟨go, 2, none⟩ = some (.slice p m c) ∧ OwnQ F w B (.slice p m c) m
  fr : w.frozen? ⟨go, 2, none⟩ = false
  stk : Stk NotU32 w go
theorem MatAt.keep {F : Nat → FP} (hF : ∀ j, Solid (F j)) {w w' : World} {go B R C m : Nat} (h : MatAt F w go B R C m) (hb : Below w.heap.size w w') : MatAt F w' go B R C m := by
  obtain ⟨p, c, e2, h2⟩ := h.c2
  exact ⟨h.lt, Nat.le_trans h.hB hb.size, cell_next hb h.c0, cell_next hb h.c1, ⟨p, c, cell_next hb e2, h2.keep hF hb⟩, frozen_keep hb (by rw [e2]; rfl) h.fr, h.stk.next hb⟩
theorem OwnQ.box {F : Nat → FP} (hF : ∀ j, Solid (F j)) {w w' : World} {B n G : Nat} {v : Value} (h : OwnQ F w B v n) (h32 : I32 w w') (hg : w.grownBy w' (some G)) (hG : G < B) : OwnQ F w' B v n := by
  obtain ⟨xs, h1, h2⟩ := h
  have hne : ∀ g, v.ownBlock = some g → some g ≠ some G := fun g e e2 => by
    have := own_ge h1.1 e.symm
    injection e2 with e2; omega
  refine ⟨xs, ⟨h1.1.kept hg ?_, fun g e => ?_⟩, fun j hj => (h2 j hj).i32 (hF j) h32⟩
  · cases hv : v.ownBlock with
    | none => exact .inl rfl
    | some g => exact .inr (hne g hv)
  · have hs := h1.2 g e
    have hb := hg.block g hs.1 (hne g e)
    exact ⟨Nat.lt_of_lt_of_le hs.1 hg.size, fun i u hu => hs.2 i u ((World.cell?_of_block (a := ⟨g, i, none⟩) hb).symm.trans hu)⟩
theorem MatAt.more {F : Nat → FP} (hF : ∀ j, Solid (F j)) {W w' : World} {go B R C m n : Nat} {xs : List Value} {p : Option Addr} {c : Nat} {p' : Option Addr} {c' : Nat} (h : MatAt F W go B R C m) (hv : W.cell? ⟨go, 2, none⟩ = some (.slice p m c)) (h1 : W.ownsRow B 35 4 (.slice p m c) m xs) (hO : OwnQ F w' B (.slice p' n c') n) (hg : W.grownBy w' (Value.slice p m c).ownBlock) :
    w'.cell? ⟨go, 2, none⟩ = some (.slice p m c) ∧ w'.frozen? ⟨go, 2, none⟩ = false ∧ MatAt F (w'.setCell ⟨go, 2, none⟩ (.slice p' n c')) go B R C n := by
  have hne : some go ≠ (Value.slice p m c).ownBlock := fun e => by
    have := own_ge h1 e
    have := h.lt
    omega
  have hgo : go < W.heap.size := Nat.lt_of_lt_of_le h.lt h.hB
  have hblk := hg.block go hgo (fun e => hne e)
  have d2 : w'.cell? ⟨go, 2, none⟩ = some (.slice p m c) := (World.cell?_of_block (a := ⟨go, 2, none⟩) hblk).trans hv
  have df : w'.frozen? ⟨go, 2, none⟩ = false := (World.frozen?_of_block (a := ⟨go, 2, none⟩) hblk).trans h.fr
  have hst : Stk NotU32 w' go := ⟨Nat.lt_of_lt_of_le hgo hg.size, fun i u hu => h.stk.2 i u ((World.cell?_of_block (a := ⟨go, i, none⟩) hblk).symm.trans hu)⟩
  refine ⟨d2, df, h.lt, by simpa using Nat.le_trans h.hB hg.size, ?_, ?_, ⟨p', c', World.cell?_setCell_same' _ _ _ (by rw [d2]; rfl), hO.box hF (I32.putU hst 2 _) (but_put w' go 2 _) h.lt⟩, frozen_set df, stk_put hst _ _ (fun _ h => by cases h)⟩
  · rw [World.cell?_setCell_other _ _ _ _ (by simp)]; exact (World.cell?_of_block (a := ⟨go, 0, none⟩) hblk).trans h.c0
  · rw [World.cell?_setCell_other _ _ _ _ (by simp)]; exact (World.cell?_of_block (a := ⟨go, 1, none⟩) hblk).trans h.c1
end Go.Proofs.YthikonjlgljikaaGreatDoor
namespace Go.Proofs.YthikonjlgljikaaGreatDoor
open Go.RowKit

def IsS (x y : Int) : FP := fun w s p n c t q m d => Zs w s p n c x ∧ Zs w t q m d y ∧ n ≤ 1000 ∧ m ≤ 1000
theorem IsS.solid (x y : Int) : Solid (IsS x y) := fun _ _ _ _ _ _ _ _ _ _ h hq => ⟨hq.1.i32 h, hq.2.1.i32 h, hq.2.2⟩
set_option maxHeartbeats 1000000 in
set_option maxRecDepth 100000 in
theorem c_CopyIntS (s : Bool) (p : Option Addr) (n c : Nat) (z : Int) (w : World) (h : Zs w s p n c z) (hn : n ≤ 1000) :
    Calls Tryz.prog 89 #[.agg #[.bool s, .slice p n c]] w fun e w' => (∃ p' c', e = .returned (.agg #[.bool s, .slice p' n c']) ∧ Zs w' s p' n c' z) ∧ Below w.heap.size w w' := by
  obtain ⟨hz, hz1, hd⟩ := h
  have HZ1 := Lib.hid hz1
  have hd : Dg w p c n (dg z.natAbs) := hz1 ▸ (show Dg w p c (nd z.natAbs) (dg z.natAbs) from hd)
  clear hz1
  have HZ := Lib.hid hz
  have HD := Lib.hid hd
  clear hd hz
  go_enter Tryz.func89, Tryz.ntmps89
  go_upto_region 1 with (fail)
  obtain ⟨w0, hw0⟩ : ∃ w0, ((w.alloc (.cells #[.bool s, .slice p n c] 33)).alloc (.cells #[.bool false, .slice none 0 0] 33)) = w0 := ⟨_, rfl⟩
  rw [hw0]
  obtain ⟨X0, X1, hb0⟩ := box2 w #[.bool s, .slice p n c] 33 #[.bool false, .slice none 0 0] 33
  rw [hw0] at X0 X1 hb0
  have hs0 : w.heap.size ≤ w0.heap.size := hb0.size
  clear hw0
  have HB := Lib.hid hb0
  have HX1 := Lib.hid X1
  have T1 := Sts.of X1 (by intro v hv; simp at hv; rcases hv with rfl | rfl <;> first | exact NotInt.bool _ | exact NotInt.slice _ _ _)
  have hS1 : w0.cell? ⟨w.heap.size, 0, none⟩ = some (.bool s) ∧ w0.cell? ⟨w.heap.size, 1, none⟩ = some (.slice p n c) ∧ w0.cell? ⟨w.heap.size + 1, 0, none⟩ = some (cellOf w0 ⟨w.heap.size + 1, 0, none⟩) ∧ w0.frozen? ⟨w.heap.size + 1, 0, none⟩ = false ∧ Sts w0 (w.heap.size + 1) ∧ w0.cell? ⟨w.heap.size + 1, 1, none⟩ = some (cellOf w0 ⟨w.heap.size + 1, 1, none⟩) ∧ w0.frozen? ⟨w.heap.size + 1, 1, none⟩ = false ∧ Sts w0 (w.heap.size + 1) ∧ Below w.heap.size w w0 ∧ w.heap.size ≤ w0.heap.size := ⟨X0.at_ 0 rfl, X0.at_ 1 rfl, cellOf_some (by rw [X1.at_ 0 rfl]; rfl), X1.free_ 0, T1, cellOf_some (by rw [X1.at_ 1 rfl]; rfl), X1.free_ 1, T1, hb0, hs0⟩
  have hS0 : w0.drew.cell? ⟨w.heap.size, 0, none⟩ = some (.bool s) ∧ w0.drew.cell? ⟨w.heap.size, 1, none⟩ = some (.slice p n c) ∧ w0.drew.cell? ⟨w.heap.size + 1, 0, none⟩ = some (cellOf w0.drew ⟨w.heap.size + 1, 0, none⟩) ∧ w0.drew.frozen? ⟨w.heap.size + 1, 0, none⟩ = false ∧ Sts w0.drew (w.heap.size + 1) ∧ w0.drew.cell? ⟨w.heap.size + 1, 1, none⟩ = some (cellOf w0.drew ⟨w.heap.size + 1, 1, none⟩) ∧ w0.drew.frozen? ⟨w.heap.size + 1, 1, none⟩ = false ∧ Sts w0.drew (w.heap.size + 1) ∧ Below w.heap.size w w0.drew ∧ w.heap.size ≤ w0.drew.heap.size := S2_2_next (Below.refl _ w0).drew hS1
  have hS2 : (w0.alloc (.cells #[] 187)).drew.cell? ⟨w.heap.size, 0, none⟩ = some (.bool s) ∧ (w0.alloc (.cells #[] 187)).drew.cell? ⟨w.heap.size, 1, none⟩ = some (.slice p n c) ∧ (w0.alloc (.cells #[] 187)).drew.cell? ⟨w.heap.size + 1, 0, none⟩ = some (cellOf (w0.alloc (.cells #[] 187)).drew ⟨w.heap.size + 1, 0, none⟩) ∧ (w0.alloc (.cells #[] 187)).drew.frozen? ⟨w.heap.size + 1, 0, none⟩ = false ∧ Sts (w0.alloc (.cells #[] 187)).drew (w.heap.size + 1) ∧ (w0.alloc (.cells #[] 187)).drew.cell? ⟨w.heap.size + 1, 1, none⟩ = some (cellOf (w0.alloc (.cells #[] 187)).drew ⟨w.heap.size + 1, 1, none⟩) ∧ (w0.alloc (.cells #[] 187)).drew.frozen? ⟨w.heap.size + 1, 1, none⟩ = false ∧ Sts (w0.alloc (.cells #[] 187)).drew (w.heap.size + 1) ∧ Below w.heap.size w (w0.alloc (.cells #[] 187)).drew ∧ w.heap.size ≤ (w0.alloc (.cells #[] 187)).drew.heap.size := S2_2_next ((Below.refl _ w0).alloc (Nat.le_refl _) _).drew hS1
  clear X0 X1
  go_region_held3 (fun w1 => w1.cell? ⟨w.heap.size, 0, none⟩ = some (.bool s) ∧ w1.cell? ⟨w.heap.size, 1, none⟩ = some (.slice p n c) ∧ w1.cell? ⟨w.heap.size + 1, 0, none⟩ = some (cellOf w1 ⟨w.heap.size + 1, 0, none⟩) ∧ w1.frozen? ⟨w.heap.size + 1, 0, none⟩ = false ∧ Sts w1 (w.heap.size + 1) ∧ w1.cell? ⟨w.heap.size + 1, 1, none⟩ = some (cellOf w1 ⟨w.heap.size + 1, 1, none⟩) ∧ w1.frozen? ⟨w.heap.size + 1, 1, none⟩ = false ∧ Sts w1 (w.heap.size + 1) ∧ Below w.heap.size w w1 ∧ w.heap.size ≤ w1.heap.size)
    (first | with_reducible exact hS0 | with_reducible exact hS2 | with_reducible exact S2_2_next hbw hS1 | (refine S2_2_next (by with_reducible assumption) ?_; assumption) | (refine S2_2_put ?_ ?_ ?_ ?_ ?_ ?_ ?_ ?_ ?_ <;> first | assumption | exact NotInt.bool _ | exact NotInt.slice _ _ _ | (dsimp only; omega) | (simp; done)))
    (first
      | (refine step_clone (by rfl) _ _ (by rfl) u32U u32Info w0.heap.size (by rfl) (World.ownsRow_made w0.drew #[] 0 (Nat.le_refl _) (Nat.zero_le _) rfl) (by rfl) (HD.out.keep (by go_grown)) hn (by simp) ?_; intro p' c' w' hd' hgr; have hbw : Below w0.heap.size w0 w' := (((Below.refl _ w0).drew.alloc (Nat.le_refl _) (.cells #[] 187)).grown hgr (by simp) (by intro k hk; injection hk with hk; subst hk; exact Nat.le_refl _)); have HZ2 := Lib.hid (show Zs _ s p' n c' z from Zs.i32 (I32.put2 (T1.next hbw) 0 1 (.bool s) (.slice p' n c') (NotInt.bool _)) ⟨HZ.out, HZ1.out, (show Dg _ p' c' (nd z.natAbs) (dg z.natAbs) from HZ1.out.symm ▸ hd')⟩); have r0 : w'.cell? ⟨w.heap.size + 1, 0, none⟩ = some (.bool false) := (HX1.out.below_ hbw HX1.out.lt).at_ 0 rfl; have r1 : w'.cell? ⟨w.heap.size + 1, 1, none⟩ = some (.slice none 0 0) := (HX1.out.below_ hbw HX1.out.lt).at_ 1 rfl; clear hd' hgr))
  go_wp2
  try simp only [Exit.inBlock, Exit.then]
  refine bodyPost_ret (by simp [results, Tryz.results89, go_sem, r0, r1]; try rfl) rfl ?_
  exact ⟨⟨p', c', rfl, HZ2.out⟩, S2_2_below (by assumption)⟩
set_option maxHeartbeats 1000000 in
set_option maxRecDepth 100000 in
theorem c_CopyRatS (s : Bool) (p : Option Addr) (n c : Nat) (x : Int) (t : Bool) (q : Option Addr) (m d : Nat) (y : Int) (w : World) (h : IsS x y w s p n c t q m d) :
    Calls Tryz.prog 47 #[.agg #[.bool s, .slice p n c, .bool t, .slice q m d]] w fun e w' => (∃ p' c' q' d', e = .returned (.agg #[.bool s, .slice p' n c', .bool t, .slice q' m d']) ∧ IsS x y w' s p' n c' t q' m d') ∧ Below w.heap.size w w' := by
  obtain ⟨h1, h2, h3, h4⟩ := h
  have H1 := Lib.hid (fun w1 (hb : Below w.heap.size w w1) => c_CopyIntS s p n c x w1 (h1.keep hb) (by omega))
  have H2 := Lib.hid (fun w1 (hb : Below w.heap.size w w1) => c_CopyIntS t q m d y w1 (h2.keep hb) (by omega))
  clear h1 h2
  go_enter Tryz.func47, Tryz.ntmps47
  go_upto_region 1 with (fail)
  obtain ⟨w0, hw0⟩ : ∃ w0, ((w.alloc (.cells #[.bool s, .slice p n c, .bool t, .slice q m d] 35)).alloc (.cells #[.bool false, .slice none 0 0, .bool false, .slice none 0 0] 35)) = w0 := ⟨_, rfl⟩
  rw [hw0]
  obtain ⟨X0, X1, hb0⟩ := box2 w #[.bool s, .slice p n c, .bool t, .slice q m d] 35 #[.bool false, .slice none 0 0, .bool false, .slice none 0 0] 35
  rw [hw0] at X0 X1 hb0
  have hs0 : w.heap.size ≤ w0.heap.size := hb0.size
  clear hw0
  have M1 : True := trivial
  have T1 := Sts.of X1 (by intro v hv; simp at hv; rcases hv with rfl | rfl | rfl | rfl <;> first | exact NotInt.bool _ | exact NotInt.slice _ _ _)
  have hS1 : w0.cell? ⟨w.heap.size, 0, none⟩ = some (.bool s) ∧ w0.cell? ⟨w.heap.size, 1, none⟩ = some (.slice p n c) ∧ w0.cell? ⟨w.heap.size, 2, none⟩ = some (.bool t) ∧ w0.cell? ⟨w.heap.size, 3, none⟩ = some (.slice q m d) ∧ w0.cell? ⟨w.heap.size + 1, 0, none⟩ = some (cellOf w0 ⟨w.heap.size + 1, 0, none⟩) ∧ w0.frozen? ⟨w.heap.size + 1, 0, none⟩ = false ∧ Sts w0 (w.heap.size + 1) ∧ w0.cell? ⟨w.heap.size + 1, 1, none⟩ = some (cellOf w0 ⟨w.heap.size + 1, 1, none⟩) ∧ w0.frozen? ⟨w.heap.size + 1, 1, none⟩ = false ∧ Sts w0 (w.heap.size + 1) ∧ w0.cell? ⟨w.heap.size + 1, 2, none⟩ = some (cellOf w0 ⟨w.heap.size + 1, 2, none⟩) ∧ w0.frozen? ⟨w.heap.size + 1, 2, none⟩ = false ∧ Sts w0 (w.heap.size + 1) ∧ w0.cell? ⟨w.heap.size + 1, 3, none⟩ = some (cellOf w0 ⟨w.heap.size + 1, 3, none⟩) ∧ w0.frozen? ⟨w.heap.size + 1, 3, none⟩ = false ∧ Sts w0 (w.heap.size + 1) ∧ Below w.heap.size w w0 ∧ w.heap.size ≤ w0.heap.size := ⟨X0.at_ 0 rfl, X0.at_ 1 rfl, X0.at_ 2 rfl, X0.at_ 3 rfl, cellOf_some (by rw [X1.at_ 0 rfl]; rfl), X1.free_ 0, T1, cellOf_some (by rw [X1.at_ 1 rfl]; rfl), X1.free_ 1, T1, cellOf_some (by rw [X1.at_ 2 rfl]; rfl), X1.free_ 2, T1, cellOf_some (by rw [X1.at_ 3 rfl]; rfl), X1.free_ 3, T1, hb0, hs0⟩
  have hS0 : w0.drew.cell? ⟨w.heap.size, 0, none⟩ = some (.bool s) ∧ w0.drew.cell? ⟨w.heap.size, 1, none⟩ = some (.slice p n c) ∧ w0.drew.cell? ⟨w.heap.size, 2, none⟩ = some (.bool t) ∧ w0.drew.cell? ⟨w.heap.size, 3, none⟩ = some (.slice q m d) ∧ w0.drew.cell? ⟨w.heap.size + 1, 0, none⟩ = some (cellOf w0.drew ⟨w.heap.size + 1, 0, none⟩) ∧ w0.drew.frozen? ⟨w.heap.size + 1, 0, none⟩ = false ∧ Sts w0.drew (w.heap.size + 1) ∧ w0.drew.cell? ⟨w.heap.size + 1, 1, none⟩ = some (cellOf w0.drew ⟨w.heap.size + 1, 1, none⟩) ∧ w0.drew.frozen? ⟨w.heap.size + 1, 1, none⟩ = false ∧ Sts w0.drew (w.heap.size + 1) ∧ w0.drew.cell? ⟨w.heap.size + 1, 2, none⟩ = some (cellOf w0.drew ⟨w.heap.size + 1, 2, none⟩) ∧ w0.drew.frozen? ⟨w.heap.size + 1, 2, none⟩ = false ∧ Sts w0.drew (w.heap.size + 1) ∧ w0.drew.cell? ⟨w.heap.size + 1, 3, none⟩ = some (cellOf w0.drew ⟨w.heap.size + 1, 3, none⟩) ∧ w0.drew.frozen? ⟨w.heap.size + 1, 3, none⟩ = false ∧ Sts w0.drew (w.heap.size + 1) ∧ Below w.heap.size w w0.drew ∧ w.heap.size ≤ w0.drew.heap.size := S4_4_next (Below.refl _ w0).drew hS1
  clear X0 X1 hS1
  go_region_held3 (fun w1 => w1.cell? ⟨w.heap.size, 0, none⟩ = some (.bool s) ∧ w1.cell? ⟨w.heap.size, 1, none⟩ = some (.slice p n c) ∧ w1.cell? ⟨w.heap.size, 2, none⟩ = some (.bool t) ∧ w1.cell? ⟨w.heap.size, 3, none⟩ = some (.slice q m d) ∧ w1.cell? ⟨w.heap.size + 1, 0, none⟩ = some (cellOf w1 ⟨w.heap.size + 1, 0, none⟩) ∧ w1.frozen? ⟨w.heap.size + 1, 0, none⟩ = false ∧ Sts w1 (w.heap.size + 1) ∧ w1.cell? ⟨w.heap.size + 1, 1, none⟩ = some (cellOf w1 ⟨w.heap.size + 1, 1, none⟩) ∧ w1.frozen? ⟨w.heap.size + 1, 1, none⟩ = false ∧ Sts w1 (w.heap.size + 1) ∧ w1.cell? ⟨w.heap.size + 1, 2, none⟩ = some (cellOf w1 ⟨w.heap.size + 1, 2, none⟩) ∧ w1.frozen? ⟨w.heap.size + 1, 2, none⟩ = false ∧ Sts w1 (w.heap.size + 1) ∧ w1.cell? ⟨w.heap.size + 1, 3, none⟩ = some (cellOf w1 ⟨w.heap.size + 1, 3, none⟩) ∧ w1.frozen? ⟨w.heap.size + 1, 3, none⟩ = false ∧ Sts w1 (w.heap.size + 1) ∧ Below w.heap.size w w1 ∧ w.heap.size ≤ w1.heap.size)
    (first | with_reducible exact hS0 | (refine S4_4_next (by with_reducible assumption) ?_; assumption) | (refine S4_4_put ?_ ?_ ?_ ?_ ?_ ?_ ?_ ?_ ?_ ?_ ?_ ?_ ?_ ?_ ?_ ?_ ?_ ?_ ?_ ?_ ?_ ?_ ?_ ?_ ?_ <;> first | assumption | exact NotInt.bool _ | exact NotInt.slice _ _ _ | (dsimp only; omega) | (simp; done)))
    (first
      | (go_at_call 89; clear M1; refine (H1.out _ (S4_4_below (by with_reducible assumption))).mono ?_; rintro e w2 ⟨⟨p2, c2, rfl, hz2⟩, hb2⟩; have HA2 := Lib.hid hz2; clear hz2)
      | (go_at_call 89; refine (H2.out _ (S4_4_below (by with_reducible assumption))).mono ?_; rintro e w3 ⟨⟨p3, c3, rfl, hz3⟩, hb3⟩; obtain ⟨⟨hR0, hT⟩, ⟨hR1, _⟩, ⟨hR2, _⟩, ⟨hR3, _⟩⟩ := S4_4_end hb3 (by with_reducible assumption); have HA3 := Lib.hid (show IsS x y _ s p2 n c2 t p3 m c3 from IsS.solid x y w3 _ s p2 n c2 t p3 m c3 (I32.put4 hT 0 1 2 3 (.bool s) (.slice p2 n c2) (.bool t) (.slice p3 m c3) (NotInt.bool _) (NotInt.slice _ _ _) (NotInt.bool _)) ⟨HA2.out.keep hb3, hz3, h3, h4⟩); clear hz3 hb2 hT HA2))
  go_wp2
  try simp only [Exit.inBlock, Exit.then]
  refine bodyPost_ret (by simp [results, Tryz.results47, go_sem, hR0, hR1, hR2, hR3]; try rfl) rfl ?_
  exact ⟨⟨p2, c2, p3, c3, rfl, HA3.out⟩, S4_4_below (by assumption)⟩
set_option maxHeartbeats 1000000 in
set_option maxRecDepth 100000 in
theorem c_CopyRatsS (v : Value) (n : Nat) (x y : Nat → Int) (w : World) (h : QL (fun j => IsS (x j) (y j)) w v n) (hn : n ≤ 1000000) :
    Calls Tryz.prog 13 #[v] w fun e w' => (∃ v', e = .returned v' ∧ OwnQ (fun j => IsS (x j) (y j)) w' w.heap.size v' n) ∧ Below w.heap.size w w' := by
  have HN := Lib.hid (OwnQ.nil (fun j => IsS (x j) (y j)) w w.heap.size)
  rcases Nat.eq_zero_or_pos n with rfl | hpos
  · have e1 : ∃ a c, v = .slice a 0 c := by
      rcases h with ⟨_, h⟩ | ⟨_, _, _, e, _⟩
      · exact h
      · exact ⟨_, _, e⟩
    obtain ⟨a1, c1, rfl⟩ := e1
    clear h
    go_enter Tryz.func13, Tryz.ntmps13
    go_wp2
    go_loopw [3, 4] (fun v i wr => v = .slice none 0 0 ∧ i = .int .i64 0 ∧ wr = w) (fun _ _ _ => 0)
    case atStart => exact ⟨rfl, rfl, rfl⟩
    case round =>
      obtain ⟨rfl, rfl, rfl⟩ := hrel
      go_wp2
      go_ret
      exact ⟨⟨_, rfl, HN.out⟩, Below.refl _ _⟩
  · obtain ⟨g1, o1, l1, rfl, hg1, r1⟩ := h.resolve_left (fun h => by omega)
    have R1 := Lib.hid r1
    clear h r1
    go_enter Tryz.func13, Tryz.ntmps13
    go_wp2
    go_loopw [3, 4] (fun v i wr => ∃ k : Nat, k ≤ n ∧ i = .int .i64 k ∧ OwnQ (fun j => IsS (x j) (y j)) wr w.heap.size v k ∧ Below w.heap.size w wr) (fun _ i _ => n - (intOf i).toNat)
    case atStart => exact ⟨0, Nat.zero_le _, rfl, HN.out, Below.refl _ _⟩
    case round =>
      obtain ⟨k, hk, rfl, ho, hb⟩ := hrel
      have HO := Lib.hid ho
      have HB := Lib.hid hb
      clear ho HN
      by_cases hlt : k < n
      · obtain ⟨s, p, i1, c, t, q, m, d, a0, a1, a2, a3, hx⟩ := (R1.out k hlt).keep (IsS.solid _ _) hb
        have HC := Lib.hid (c_CopyRatS s p i1 c (x k) t q m d (y k) wr hx)
        clear hx hb
        go_wp2_with fail
        refine HC.out.mono ?_
        rintro e w2 ⟨⟨p1, c1, q1, d1, rfl, hq⟩, hb2⟩
        obtain ⟨xs, hK, hX⟩ := HO.out.keep (fun _ => IsS.solid _ _) hb2
        have HK := Lib.hid hK
        have HX := Lib.hid hX
        have HQ := Lib.hid hq
        have HB1 := Lib.hid (HB.out.trans (hb2.mono HB.out.size))
        clear hK hX hq hb2 HO HB a0 a1 a2 a3 HC
        go_wp2_with (at_builtin; refine wpl_app2 NotInt rfl (.tmp 11) (.tmp 17) _ 35 rfl Tryz.underlying24 ratInfo rfl (by decide) w.heap.size k u3 xs [.bool s, .slice p1 i1 c1, .bool t, .slice q1 m d1] rfl HK.out rfl rfl (one4 _ _ _ _ _ _ _ _) (by omega) (by omega) HB1.out.size (ni4 _ _ _ _ _ _ _ _) niz ?_; intro v' w' hown' hgr hat; have HO2 := Lib.hid (OwnQ.push (W := _) (fun _ => IsS.solid _ _) HK.out HX.out HQ.out hown' hgr); have HB2 := Lib.hid (own_below HB1.out HK.out.1 hgr (Nat.le_refl _) HB1.out.size); clear hown' hgr hat)
        go_roundw
        case rel => exact ⟨k + 1, by omega, by go_num, HO2.out, HB2.out⟩
        case measure => simp [intOf]; omega
      · obtain rfl : k = n := by omega
        clear hb
        go_wp2
        go_ret
        exact ⟨⟨_, rfl, HO.out⟩, HB.out⟩
end Go.Proofs.YthikonjlgljikaaGreatDoor
