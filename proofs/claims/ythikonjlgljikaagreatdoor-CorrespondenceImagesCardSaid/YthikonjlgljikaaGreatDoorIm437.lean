/- Rows of paths in memory, and what the images of a path are. -/
import Derived.Test.YthikonjlgljikaaGreatDoorIm436
import Derived.Test.YthikonjlgljikaaGreatDoorIm408
namespace Go.Proofs.YthikonjlgljikaaGreatDoor
open Go.RowKit

/-- The error of the translation by one matrix. -/
def tE (x : Pl.Cos) (p q p' q' : Int) : Int := trE (x.1.1 : Nat) (x.1.2.1 : Nat) 0 (x.1.2.2 : Nat) p q p' q'
/-- The error of the images: the first one. -/
def imE (p q p' q' : Int) : List Pl.Cos → Int
  | [] => 0
  | x :: L => if tE x p q p' q' ≠ 0 then tE x p q p' q' else imE p q p' q' L
theorem imE_all {p q p' q' : Int} : ∀ {L : List Pl.Cos}, (∀ x ∈ L, tE x p q p' q' = 0) → imE p q p' q' L = 0
  | [], _ => rfl
  | x :: L, h => by
    rw [imE, if_neg (by rw [h x (List.mem_cons_self ..)]; simp)]
    exact imE_all fun y hy => h y (List.mem_cons_of_mem _ hy)
theorem imE_at {p q p' q' : Int} : ∀ {L : List Pl.Cos} (i : Nat) (hi : i < L.length), (∀ j (hj : j < i), tE (L[j]'(by omega)) p q p' q' = 0) → tE L[i] p q p' q' ≠ 0 → imE p q p' q' L = tE L[i] p q p' q'
  | [], i, hi, _, _ => absurd hi (Nat.not_lt_zero _)
  | x :: L, 0, _, _, h => by rw [imE]; exact if_pos h
  | x :: L, i + 1, hi, h0, h => by
    have h1 : tE x p q p' q' = 0 := h0 0 (Nat.succ_pos i)
    rw [imE, if_neg (by rw [h1]; simp)]
    exact imE_at (L := L) i (by simpa using hi) (fun j hj => h0 (j + 1) (by omega)) h
/-- The polynomial of an image. -/
def imF (Q : Nat → Rat) (n : Nat) (x : Pl.Cos) (j : Nat) : Rat := (x.2 : Rat) * subst Q (n - 1) (x.1.2.2 : Nat) (-(x.1.2.1 : Nat)) (-0) (x.1.1 : Nat) n j
/-- Its ends. -/
def imX (p q : Int) (x : Pl.Cos) : Int × Int := (appV (x.1.1 : Nat) (x.1.2.1 : Nat) 0 (x.1.2.2 : Nat) p q).1

theorem QRow.grown {F : Nat → FP} (hF : ∀ j, Solid (F j)) {w w' : World} {g N k : Nat} {row : Option Nat} (h : QRow F w g N k) (h32 : I32 w w') (hg : w.grownBy w' row) (hne : some g ≠ row) : QRow F w' g N k := by
  have hc : ∀ j v, w.cell? ⟨g, j, none⟩ = some v → w'.cell? ⟨g, j, none⟩ = some v := fun j v e => hg.cell e hne
  have hbk : w'.heap[g]? = w.heap[g]? := hg.block g h.sts.1 hne
  refine ⟨⟨Nat.lt_of_lt_of_le h.sts.1 hg.size, fun i v hv => h.sts.2 i v ((World.cell?_of_block (a := ⟨g, i, none⟩) hbk).symm.trans hv)⟩, fun i hi => (World.frozen?_of_block (a := ⟨g, i, none⟩) hbk).trans (h.free i hi), fun i hi => ?_, fun j hj => ?_⟩
  · rw [World.cell?_of_block (a := ⟨g, i, none⟩) hbk]; exact h.has i hi
  · obtain ⟨s, p, n, c, t, q, m, d, h0, h1, h2, h3, h4⟩ := h.val j hj
    exact ⟨s, p, n, c, t, q, m, d, hc _ _ h0, hc _ _ h1, hc _ _ h2, hc _ _ h3, hF j _ _ _ _ _ _ _ _ _ _ h32 h4⟩
/-- The cells of path number i of a list of cells. -/
def PX (w : World) (xs : List Value) (i n : Nat) (f : Nat → Rat) (x y : Int × Int) : Prop :=
  ∃ g cap, xs[i * 5]? = some (.slice (some ⟨g, 0, none⟩) n cap) ∧ xs[i * 5 + 1]? = some (.int .i64 x.1) ∧ xs[i * 5 + 2]? = some (.int .i64 x.2) ∧ xs[i * 5 + 3]? = some (.int .i64 y.1) ∧ xs[i * 5 + 4]? = some (.int .i64 y.2) ∧ QRow (fun j => IsQ (f j)) w g n n
/-- A row of paths of one's own, in append's hands. -/
def OwnP (F : Nat → Nat → Rat) (X Y : Nat → Int × Int) (w : World) (B : Nat) (v : Value) (k n : Nat) : Prop :=
  (v.ownBlock = none ∨ 0 < k) ∧ ∃ xs, OwnK NotU32 w B 28 5 v k xs ∧ ∀ i, i < k → PX w xs i n (F i) (X i) (Y i)
theorem OwnP.nil (F : Nat → Nat → Rat) (X Y : Nat → Int × Int) (w : World) (B n : Nat) : OwnP F X Y w B (.slice none 0 0) 0 n := ⟨.inl rfl, [], OwnK.nil _ _ _ _ _, fun _ hi => absurd hi (Nat.not_lt_zero _)⟩
theorem PX.keep {w w' : World} {xs : List Value} {i n : Nat} {f : Nat → Rat} {x y : Int × Int} (h : PX w xs i n f x y) (hb : Below w.heap.size w w') : PX w' xs i n f x y := by
  obtain ⟨g, cap, h0, h1, h2, h3, h4, h5⟩ := h
  exact ⟨g, cap, h0, h1, h2, h3, h4, h5.keep (fun _ => IsQ.solid _) hb⟩
theorem OwnP.keep {F : Nat → Nat → Rat} {X Y : Nat → Int × Int} {w w' : World} {B k n : Nat} {v : Value} (h : OwnP F X Y w B v k n) (hb : Below w.heap.size w w') : OwnP F X Y w' B v k n := by
  obtain ⟨hv, xs, h1, h2⟩ := h
  exact ⟨hv, xs, h1.keep hb, fun i hi => (h2 i hi).keep hb⟩
theorem OwnP.push {F : Nat → Nat → Rat} {X Y : Nat → Int × Int} {W w' : World} {B k n : Nat} {v v' : Value} {xs : List Value} (hv : v.ownBlock = none ∨ 0 < k) (h1 : OwnK NotU32 W B 28 5 v k xs) (h2 : ∀ i, i < k → PX W xs i n (F i) (X i) (Y i))
    {g cap : Nat} {x y : Int × Int} (hq : QRow (fun j => IsQ (F k j)) W g n n) (hx : X k = x) (hy : Y k = y) (h3 : OwnK NotU32 w' B 28 5 v' (k + 1) (xs ++ [.slice (some ⟨g, 0, none⟩) n cap, .int .i64 x.1, .int .i64 x.2, .int .i64 y.1, .int .i64 y.2])) (hg : W.grownBy w' v.ownBlock) : OwnP F X Y w' B v' (k + 1) n := by
  have h32 := I32.grown (K := NotU32) (fun x => not_u32 x) h1.2 hg
  have hl : xs.length = k * 5 := h1.1.1
  have hne : ∀ g', Sts W g' → some g' ≠ v.ownBlock := by
    intro g' hs e
    rcases hv with hv | hv
    · rw [hv] at e; cases e
    · obtain ⟨_, _, _, e1, _⟩ := h2 0 hv
      rcases own_shape h1.1 with ⟨rfl, _⟩ | ⟨g0, cap0, rfl, _⟩
      · simp [Value.ownBlock] at e
      · simp [Value.ownBlock] at e
        subst e
        exact hs.2 1 _ (own_read h1.1 (j := 1) (by simpa using e1)) _ _ rfl
  refine ⟨.inr (Nat.succ_pos k), _, h3, fun i hi => ?_⟩
  by_cases hik : i < k
  · obtain ⟨g', cap', e0, e1, e2, e3, e4, e5⟩ := h2 i hik
    have hk : ∀ (j : Nat) (u : Value), xs[j]? = some u → (xs ++ [.slice (some ⟨g, 0, none⟩) n cap, .int .i64 x.1, .int .i64 x.2, .int .i64 y.1, .int .i64 y.2])[j]? = some u := by
      intro j u e
      rw [List.getElem?_append_left]
      · exact e
      · rcases Nat.lt_or_ge j xs.length with hlt | hge
        · exact hlt
        · rw [List.getElem?_eq_none hge] at e; cases e
    exact ⟨g', cap', hk _ _ e0, hk _ _ e1, hk _ _ e2, hk _ _ e3, hk _ _ e4, e5.grown (fun _ => IsQ.solid _) h32 hg (hne g' e5.sts)⟩
  · obtain rfl : i = k := by omega
    refine ⟨g, cap, ?_, ?_, ?_, ?_, ?_, hq.grown (fun _ => IsQ.solid _) h32 hg (hne g hq.sts)⟩
    · rw [List.getElem?_append_right (by omega), hl, show i * 5 - i * 5 = 0 by omega]; rfl
    · rw [List.getElem?_append_right (by omega), hl, show i * 5 + 1 - i * 5 = 1 by omega, hx]; rfl
    · rw [List.getElem?_append_right (by omega), hl, show i * 5 + 2 - i * 5 = 2 by omega, hx]; rfl
    · rw [List.getElem?_append_right (by omega), hl, show i * 5 + 3 - i * 5 = 3 by omega, hy]; rfl
    · rw [List.getElem?_append_right (by omega), hl, show i * 5 + 4 - i * 5 = 4 by omega, hy]; rfl
theorem pathInfo : (Tryz.prog.info? 28).map (fun i => (i.zero, i.size, i.bytes)) = some (some (.agg #[.slice none 0 0, .int .i64 0, .int .i64 0, .int .i64 0, .int .i64 0]), 5, 56) := by kernel_rfl
theorem one5 (p : Option Addr) (n c : Nat) (a b x y : Int) : ∀ u ∈ [Value.slice p n c, .int .i64 a, .int .i64 b, .int .i64 x, .int .i64 y], u.oneCell' = true := by
  intro u hu
  simp at hu
  rcases hu with rfl | rfl | rfl | rfl | rfl <;> rfl
theorem nu5 (p : Option Addr) (n c : Nat) (a b x y : Int) : ∀ u ∈ [Value.slice p n c, .int .i64 a, .int .i64 b, .int .i64 x, .int .i64 y], NotU32 u := by
  intro u hu
  simp at hu
  rcases hu with rfl | rfl | rfl | rfl | rfl <;> exact fun _ h => by cases h
theorem nuz : ∀ u ∈ (Value.agg #[.slice none 0 0, .int .i64 0, .int .i64 0, .int .i64 0, .int .i64 0]).cells.toList, NotU32 u := by
  intro u hu
  simp [Value.cells] at hu
  rcases hu with rfl | rfl <;> exact fun _ h => by cases h
/-- What is known of the matrices and factors. -/
def CosOk (x : Pl.Cos) : Prop := (1 ≤ x.1.1 ∧ x.1.1 ≤ 128) ∧ x.1.2.1 ≤ 128 ∧ (1 ≤ x.1.2.2 ∧ x.1.2.2 ≤ 128) ∧ (-1 ≤ x.2 ∧ x.2 ≤ 1)
theorem kro_pm (a : Int) (n : Nat) : -1 ≤ Pl.kroP a n ∧ Pl.kroP a n ≤ 1 := by
  unfold Pl.kroP
  dsimp only
  split
  · omega
  · have h := jac_pm (n / 2 ^ Lib.ctz 64 n + 1) (a % (n / 2 ^ Lib.ctz 64 n : Nat)).toNat (n / 2 ^ Lib.ctz 64 n) 1 (.inl rfl)
    split <;> omega
theorem cosAt_ok {chi : Nat → Int} (hc : ∀ a, -1 ≤ chi a ∧ chi a ≤ 1) {N n : Nat} (hn : n ≤ 128) : ∀ k, k ≤ n → ∀ x ∈ Pl.cosAt chi N n k, CosOk x
  | 0, _, x, hx => by simp [Pl.cosAt] at hx
  | k + 1, hk, x, hx => by
    rw [Pl.cosAt, List.mem_append] at hx
    rcases hx with hx | hx
    · exact cosAt_ok hc hn k (by omega) x hx
    · split at hx
      · rename_i h
        unfold Pl.cosRow at hx
        obtain ⟨j, hj, rfl⟩ := List.mem_map.1 hx
        rw [List.mem_range] at hj
        have h1 := Nat.div_le_self n (k + 1)
        exact ⟨⟨by simp, by simp; omega⟩, by simp; omega, ⟨by simp; omega, by simp; omega⟩, hc _⟩
      · cases hx
theorem cosL_ok (N k D n : Int) : ∀ x ∈ Pl.cosL (Pl.kroP D) N k D n, CosOk x := by
  unfold Pl.cosL
  split
  · rename_i h
    obtain ⟨_, h2, h3⟩ := Pl.cosE_ok h
    exact cosAt_ok (kro_pm D) (by omega) _ (Nat.le_refl _)
  · intro x hx; cases hx
/-- What Images returns: its list, or an error. -/
def RetI (w' : World) (e : Ending) (B : Nat) (er : Int) (L : List Pl.Cos) (F : Nat → Nat → Rat) (X Y : Nat → Int × Int) (n : Nat) : Prop :=
  (er ≠ 0 ∧ e = .returned (.tuple #[.slice none 0 0, .int .i64 er])) ∨ (er = 0 ∧ ∃ v, e = .returned (.tuple #[v, .int .i64 0]) ∧ OwnP F X Y w' B v L.length n)
/-- The error of Images. -/
def imEr (N k D n : Int) (len : Nat) (p q p' q' : Int) (L : List Pl.Cos) : Int :=
  if Pl.cosE N k D n ≠ 0 then Pl.cosE N k D n else if (len : Int) ≠ k - 1 then 4 else imE p q p' q' L
end Go.Proofs.YthikonjlgljikaaGreatDoor
