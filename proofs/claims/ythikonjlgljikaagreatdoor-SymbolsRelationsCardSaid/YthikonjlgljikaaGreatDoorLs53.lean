/- The span of the rows of an elimination, and the classes of vectors. No program in sight. The law SymbolsRelations, walked: it returns true. -/
import Derived.Test.YthikonjlgljikaaGreatDoorLs31
import Derived.Test.YthikonjlgljikaaGreatDoorLs46
import Derived.Test.YthikonjlgljikaaGreatDoorLs47
import Derived.Test.YthikonjlgljikaaGreatDoorLs52
namespace Go.Proofs.YthikonjlgljikaaGreatDoor
namespace Eli
open Sie

/-- Combinations of the first k integer rows. -/
def RSp (rows : Nat → Nat → Int) (k : Nat) (u : Nat → Rat) : Prop := ∃ z : Nat → Rat, ∀ q, u q = sumQ (fun i => z i * (rows i q : Rat)) k
theorem RSp.nil (rows : Nat → Nat → Int) (k : Nat) : RSp rows k (fun _ => 0) := ⟨fun _ => 0, fun q => (sumQ_zero (fun i _ => by grind)).symm⟩
theorem RSp.combine {rows : Nat → Nat → Int} {k : Nat} {u v : Nat → Rat} (hu : RSp rows k u) (c : Rat) (hv : RSp rows k v) : RSp rows k (fun q => u q + c * v q) := by
  obtain ⟨y, ey⟩ := hu
  obtain ⟨z, ez⟩ := hv
  refine ⟨fun j => y j + c * z j, fun q => ?_⟩
  dsimp only
  rw [ey, ez, ← sumQ_mul, ← sumQ_add]
  exact sumQ_congr fun i _ => by grind
theorem RSp.congr {rows : Nat → Nat → Int} {k : Nat} {u v : Nat → Rat} (hu : RSp rows k u) (h : ∀ q, v q = u q) : RSp rows k v := by
  obtain ⟨y, ey⟩ := hu
  exact ⟨y, fun q => by rw [h, ey]⟩
theorem RSp.mono {rows : Nat → Nat → Int} {k k' : Nat} {u : Nat → Rat} (hu : RSp rows k u) (h : k ≤ k') : RSp rows k' u := by
  obtain ⟨y, ey⟩ := hu
  refine ⟨fun j => if j < k then y j else 0, fun q => ?_⟩
  rw [ey, sumQ_tail h (fun i h1 _ => by simp only [if_neg (Nat.not_lt.2 h1)]; grind)]
  exact sumQ_congr fun i hi => by simp only [if_pos hi]
theorem RSp.row {rows : Nat → Nat → Int} {k i : Nat} (hi : i < k) : RSp rows k (fun q => (rows i q : Rat)) := by
  refine ⟨fun j => if j = i then 1 else 0, fun q => ?_⟩
  rw [sumQ_single hi (fun j _ hne => by simp only [if_neg hne]; grind)]
  simp
theorem RSp.sum {rows : Nat → Nat → Int} {k : Nat} {L : Nat → Nat → Rat} {z : Nat → Rat} : ∀ t, (∀ j, j < t → z j = 0 ∨ RSp rows k (L j)) → RSp rows k (fun q => sumQ (fun j => z j * L j q) t)
  | 0, _ => (RSp.nil rows k).congr (fun _ => rfl)
  | t + 1, h => by
    have h1 := RSp.sum t (fun j hj => h j (by omega)) (rows := rows) (k := k) (L := L) (z := z)
    rcases h t (Nat.lt_succ_self _) with h2 | h2
    · exact h1.congr (fun q => by rw [sumQ, h2]; grind)
    · exact (h1.combine (z t) h2).congr (fun q => by rw [sumQ])
theorem RSp.of_sp {rows : Nat → Nat → Int} {k t : Nat} {ld : Nat → Bool} {L : Nat → Nat → Rat} {u : Nat → Rat} (hu : Sp ld L t u) (h : ∀ j, j < t → ld j = true → RSp rows k (L j)) : RSp rows k u := by
  obtain ⟨z, hz, ez⟩ := hu
  refine (RSp.sum (L := L) (z := z) t (fun j hj => ?_)).congr ez
  cases hl : ld j with
  | false => exact .inl (hz j hj hl)
  | true => exact .inr (h j hj hl)
theorem Sp.sum {ld : Nat → Bool} {L : Nat → Nat → Rat} {t : Nat} {R : Nat → Nat → Rat} {z : Nat → Rat} : ∀ k, (∀ j, j < k → z j = 0 ∨ Sp ld L t (R j)) → Sp ld L t (fun q => sumQ (fun j => z j * R j q) k)
  | 0, _ => (Sp.nil ld L t).congr (fun _ => rfl)
  | k + 1, h => by
    have h1 := Sp.sum k (fun j hj => h j (by omega)) (ld := ld) (L := L) (t := t) (R := R) (z := z)
    rcases h k (Nat.lt_succ_self _) with h2 | h2
    · exact h1.congr (fun q => by rw [sumQ, h2]; grind)
    · exact (h1.combine (z k) h2).congr (fun q => by rw [sumQ])
/-- What the rows span lies in what the leads span, if the rows do. -/
theorem RSp.sp {rows : Nat → Nat → Int} {k t : Nat} {ld : Nat → Bool} {L : Nat → Nat → Rat} {u : Nat → Rat} (hu : RSp rows k u) (h : ∀ i, i < k → Sp ld L t (fun q => (rows i q : Rat))) : Sp ld L t u := by
  obtain ⟨z, ez⟩ := hu
  exact (Sp.sum (R := fun i q => (rows i q : Rat)) (z := z) k (fun j hj => .inr (h j hj))).congr ez
theorem Sp.trim {ld : Nat → Bool} {L : Nat → Nat → Rat} {t n : Nat} {u : Nat → Rat} (hu : Sp ld L t u) (h : ∀ j, n ≤ j → ld j = false) : Sp ld L n u := by
  by_cases ht : t ≤ n
  · exact hu.mono ht
  · obtain ⟨z, hz, ez⟩ := hu
    refine ⟨z, fun j hj hl => hz j (by omega) hl, fun q => ?_⟩
    rw [ez]
    exact sumQ_tail (by omega) (fun i h1 h2 => by rw [hz i h2 (h i h1)]; grind)
theorem Good.high {n B : Nat} {leads : Nat → List (Nat × Rat)} (h : Good n B leads) (j : Nat) (hj : n ≤ j) : ldOf leads j = false := ldOf_false ((h.ord j).top hj)

/-- What changes when a row joins the leads. -/
theorem put_facts {leads : Nat → List (Nat × Rat)} {x : Nat × Rat} {r : List (Nat × Rat)} (hno : leads x.1 = []) :
    ldOf (Eli.put leads (x :: r)) x.1 = true ∧ (∀ q, rowOf (Eli.put leads (x :: r)) x.1 q = 1 / x.2 * val (x :: r) q) ∧
    (∀ j, j ≠ x.1 → ldOf (Eli.put leads (x :: r)) j = ldOf leads j ∧ rowOf (Eli.put leads (x :: r)) j = rowOf leads j) ∧
    ∀ t u, Sp (ldOf leads) (rowOf leads) t u → Sp (ldOf (Eli.put leads (x :: r))) (rowOf (Eli.put leads (x :: r))) t u := by
  obtain ⟨L', hL'⟩ : ∃ L', Eli.put leads (x :: r) = L' := ⟨_, rfl⟩
  have e1 : L' x.1 = scl (x :: r) := by rw [← hL']; exact if_pos rfl
  have e2 : ∀ j, j ≠ x.1 → L' j = leads j := fun j hj => by rw [← hL']; exact if_neg hj
  have e3 : scl (x :: r) ≠ [] := by rw [scl, List.map_cons]; exact List.cons_ne_nil _ _
  have hld : ldOf L' x.1 = true := ldOf_true (by rw [e1]; exact e3)
  have hld2 : ∀ j, j ≠ x.1 → ldOf L' j = ldOf leads j := fun j hj => by rw [ldOf, e2 j hj]; rfl
  have hro : ∀ j, j ≠ x.1 → rowOf L' j = rowOf leads j := fun j hj => by funext q; rw [rowOf, rowOf, hld2 j hj, e2 j hj]
  have hrx : ∀ q, rowOf L' x.1 q = 1 / x.2 * val (x :: r) q := fun q => by rw [rowOf, hld, if_pos rfl, e1, val_scl]
  rw [hL']
  refine ⟨hld, hrx, fun j hj => ⟨hld2 j hj, hro j hj⟩, fun t u hu => hu.turn fun j _ hl => ?_⟩
  have hne : j ≠ x.1 := fun e => by rw [e, ldOf_false hno] at hl; cases hl
  exact ⟨by rw [hld2 j hne]; exact hl, hro j hne⟩
/-- The row that is joined: no lead stands there. -/
theorem put_new {n B : Nat} {leads : Nat → List (Nat × Rat)} {v : Nat → Int} {t : Nat} {x : Nat × Rat} {r : List (Nat × Rat)} (h : Good n B leads) (hr : RowOk n leads v t (x :: r)) (hs : red leads (x :: r) = x :: r) : leads x.1 = [] := by
  refine Classical.byContradiction fun hl => ?_
  obtain ⟨⟨ho, _⟩, _⟩ := hr.step h hl
  rw [hs] at ho
  have := ho.1
  omega
/-- The rows lie in what the leads span, and the leads in what the rows span. -/
theorem elim_span {n B : Nat} {rows : Nat → Nat → Int} (hB : 1 ≤ B) (hb : ∀ i q, (rows i q).natAbs ≤ B) (h0 : ∀ i q, n ≤ q → rows i q = 0) (k : Nat) :
    (∀ i, i < k → Sp (ldOf (elim n rows k)) (rowOf (elim n rows k)) n (fun q => (rows i q : Rat))) ∧ ∀ j, ldOf (elim n rows k) j = true → RSp rows k (rowOf (elim n rows k) j) := by
  induction k with
  | zero => exact ⟨fun i hi => absurd hi (Nat.not_lt_zero _), fun j hj => by cases hj⟩
  | succ k ih =>
    obtain ⟨ih1, ih2⟩ := ih
    have hg := Good.elim hB hb h0 k
    have hr := RowOk.first n (Eli.elim n rows k) (rows k) (h0 k)
    obtain ⟨t, h1, _⟩ := hr.steps hg n
    have hs := hr.end_still hg
    rw [show elim n rows (k + 1) = Eli.put (elim n rows k) (redN (elim n rows k) n (spr (rows k) n)) from rfl]
    generalize redN (elim n rows k) n (spr (rows k) n) = r at h1 hs ⊢
    generalize elim n rows k = leads at ih1 ih2 hg h1 hs ⊢
    obtain ⟨ho, u, hu, he⟩ := h1
    have hun := hu.trim hg.high
    have hur : RSp rows k u := RSp.of_sp hu (fun j _ hj => ih2 j hj)
    cases r with
    | nil =>
      refine ⟨fun i hi => ?_, fun j hj => (ih2 j hj).mono (Nat.le_succ _)⟩
      by_cases e : i = k
      · subst e
        exact hun.congr (fun q => by rw [he, val_nil]; grind)
      · exact ih1 i (by omega)
    | cons x r =>
      have hno := put_new hg ⟨ho, u, hu, he⟩ hs
      obtain ⟨f1, f2, f3, f4⟩ := put_facts (r := r) hno
      have hx := ho.2.2.1
      have hxn := ho.2.1
      refine ⟨fun i hi => ?_, fun j hj => ?_⟩
      · by_cases e : i = k
        · subst e
          refine ((f4 _ _ hun).combine x.2 (Sp.lead hxn f1)).congr (fun q => ?_)
          rw [he, f2]
          grind
        · exact f4 _ _ (ih1 i (by omega))
      · by_cases e : j = x.1
        · subst e
          have h2 : RSp rows (k + 1) (fun q => (rows k q : Rat) + (-1) * u q) := (RSp.row (Nat.lt_succ_self _)).combine (-1) (hur.mono (Nat.le_succ _))
          refine ((RSp.nil rows (k + 1)).combine (1 / x.2) h2).congr (fun q => ?_)
          rw [f2, he]
          grind
        · obtain ⟨g1, g2⟩ := f3 j e
          rw [g1] at hj
          rw [g2]
          exact (ih2 j hj).mono (Nat.le_succ _)

/-- Two ways to write a vector over the free columns: the same coordinates. -/
theorem Inv.unique {B : Nat} {ld : Nat → Bool} {L : Nat → Nat → Rat} {R : Nat → Nat → Int} (h : Inv B ld L R) {n : Nat} {x y u v : Nat → Rat} (hu : Sp ld L n u) (hv : Sp ld L n v)
    (he : ∀ q, q < n → sumQ (fun f => (if ld f then 0 else x f) * L f q) n + u q = sumQ (fun f => (if ld f then 0 else y f) * L f q) n + v q) : ∀ f, f < n → ld f = false → x f = y f := by
  obtain ⟨a, ha, ea⟩ := hu
  obtain ⟨b, hb, eb⟩ := hv
  have h1 := h.tri (t := n) (z := fun j => ((if ld j then 0 else x j) + a j) + (-1) * ((if ld j then 0 else y j) + b j)) (fun q hq => by
    have e := he q hq
    rw [ea, eb] at e
    have e2 : sumQ (fun j => (((if ld j then 0 else x j) + a j) + (-1) * ((if ld j then 0 else y j) + b j)) * L j q) n
        = (sumQ (fun f => (if ld f then 0 else x f) * L f q) n + sumQ (fun j => a j * L j q) n) + (-1) * (sumQ (fun f => (if ld f then 0 else y f) * L f q) n + sumQ (fun j => b j * L j q) n) := by
      rw [← sumQ_add, ← sumQ_add, ← sumQ_mul, ← sumQ_add]
      exact sumQ_congr fun i _ => by grind
    rw [e2, e]
    grind)
  intro f hf hl
  have h2 := h1 f hf
  rw [ha f hf hl, hb f hf hl, hl] at h2
  simp only [Bool.false_eq_true, if_false] at h2
  grind

/-- A vector by its class: the combination of the free unit vectors, and of the leads. -/
theorem class_of {n B : Nat} {leads : Nat → List (Nat × Rat)} (h : Good n B leads) (V : Nat → Rat) : ∀ m, m ≤ n →
    ∃ u, Sp (ldOf leads) (rowOf leads) n u ∧ ∀ q, (if q < m then V q else 0) = sumQ (fun f => (if ldOf leads f then 0 else sumQ (fun j => V j * crd leads n n j f) m) * rowOf leads f q) n + u q
  | 0, _ => ⟨fun _ => 0, Sp.nil _ _ _, fun q => by
      rw [if_neg (Nat.not_lt_zero _), sumQ_zero (fun i _ => ?_)]
      · grind
      · rw [sumQ]; split <;> grind⟩
  | m + 1, hm => by
    obtain ⟨u, hu, eu⟩ := class_of h V m (by omega)
    obtain ⟨w, hw, ew⟩ := said h n m (by omega) (by omega) n (by omega) (Nat.le_refl _)
    refine ⟨_, hu.combine (V m) hw, fun q => ?_⟩
    have e1 : (if q < m + 1 then V q else 0) = (if q < m then V q else 0) + V m * (if q = m then (1 : Rat) else 0) := by
      by_cases h1 : q = m
      · rw [h1, if_pos (by omega), if_neg (by omega), if_pos rfl]; grind
      · rw [if_neg h1]
        by_cases h2 : q < m
        · rw [if_pos (by omega), if_pos h2]; grind
        · rw [if_neg (by omega), if_neg h2]; grind
    have e2 : sumQ (fun f => (if ldOf leads f then 0 else sumQ (fun j => V j * crd leads n n j f) (m + 1)) * rowOf leads f q) n = sumQ (fun f => (if ldOf leads f then 0 else sumQ (fun j => V j * crd leads n n j f) m) * rowOf leads f q) n + V m * sumQ (fun f => (if ldOf leads f then 0 else crd leads n n m f) * rowOf leads f q) n := by
      rw [← sumQ_mul, ← sumQ_add]
      refine sumQ_congr fun f _ => ?_
      rw [sumQ]
      split <;> grind
    rw [e1, eu, ew, e2]
    grind
/-- A vector that the leads span: its class is 0. -/
theorem class_zero {n B : Nat} {leads : Nat → List (Nat × Rat)} (h : Good n B leads) {V : Nat → Rat} (hV : Sp (ldOf leads) (rowOf leads) n V) {f : Nat} (hf : f < n) (hl : leads f = []) : sumQ (fun j => V j * crd leads n n j f) n = 0 := by
  obtain ⟨u, hu, eu⟩ := class_of h V n (Nat.le_refl _)
  obtain ⟨R, hi⟩ := h.inv
  exact hi.unique (x := fun f => sumQ (fun j => V j * crd leads n n j f) n) (y := fun _ => 0) hu hV (fun q hq => by
    rw [← eu, if_pos hq, sumQ_zero (fun i _ => ?_)]
    · grind
    · split <;> grind) f hf (ldOf_false hl)
end Eli
end Go.Proofs.YthikonjlgljikaaGreatDoor
namespace Go.Proofs.YthikonjlgljikaaGreatDoor
set_option linter.unusedSimpArgs false
open Go.RowKit Eli

theorem rel_zero {n wt : Nat} {D : Int} (hw : wt ≤ 22) {k f : Nat} (hk : k < 2 * cntF n wt) (hf : f ∈ frs (elF n wt D) (cntF n wt)) :
    vecS (fun q => ((rowF (cntF n wt) (relF n wt D) k q : Int) : Rat)) (crd (elF n wt D) (cntF n wt) (cntF n wt)) (cntF n wt) f = 0 := by
  obtain ⟨h1, h2⟩ := frs_mem.1 hf
  exact class_zero (elF_good hw) ((elim_span (by omega) (rowF_small (relF_small hw)) (rowF_zero _ _) _).1 k hk) h1 h2
theorem OwnQ.caps {F : Nat → FP} {w : World} {B n g cap : Nat} (h : OwnQ F w B (.slice (some ⟨g, 0, none⟩) n cap) n) : n ≤ cap ∧ cap ≤ 9223372036854775807 := by
  obtain ⟨xs, h1, _⟩ := h
  rcases h1.1.2 with ⟨e, _⟩ | ⟨g', cap', cs, e, _, _, hn, hcm, _⟩
  · cases e
  · cases e
    exact ⟨hn, by simp only [maxLen] at hcm; omega⟩
set_option maxHeartbeats 1000000 in
theorem c_zeros (v : Value) (n : Nat) (w : World) (h : QL (fun _ => IsQ 0) w v n) (hn : n ≤ 1000) :
    Calls Tryz.prog 35 #[v] w fun e w' => e = .returned (.bool true) ∧ Below w.heap.size w w' := by
  obtain ⟨p, c, rfl⟩ := ql_value h
  have HQ := Lib.hid h
  have HZ := Lib.hid (c_Zeros n w (by omega))
  clear h
  go_enter Tryz.func35, Tryz.ntmps35
  go_wp2_with fail
  refine HZ.out.mono ?_
  rintro e w1 ⟨⟨v1, rfl, ho⟩, hb1⟩
  have HB1 := Lib.hid hb1
  have HO := Lib.hid ho.ql
  obtain ⟨p1, c1, rfl⟩ := ql_value ho.ql
  clear ho hb1
  go_wp2_with fail
  refine (c_SameRats_eq _ _ n (fun _ => 0) w1 (HQ.out.keep (fun _ => IsQ.solid _) HB1.out) HO.out (by omega) (fun _ _ => by rw [hq_zero]; omega)).mono ?_
  rintro e w2 ⟨rfl, hb2⟩
  have HB2 := Lib.hid (HB1.out.trans (hb2.mono HB1.out.size))
  clear hb2
  go_wp2
  go_ret
  exact ⟨rfl, HB2.out⟩
set_option maxHeartbeats 4000000 in
set_option maxRecDepth 100000 in
theorem c_lawRel_bad (N k D : Int) (w : World) (hT : Tab w) (hck : Pl.check N k D ≠ 0) :
    Calls Tryz.prog 7 #[.agg #[.int .i64 N, .int .i64 k, .int .i64 D]] w fun e w' => e = .returned (.bool true) ∧ Below w.heap.size w w' := by
  have HLA := Lib.hid (fun W => c_Large_bad N k D W hck)
  have HNE := Lib.hid (fun W => c_New_check N k D W hck)
  have HRE := Lib.hid (fun W => c_Relations_bad N k D W hck)
  obtain ⟨er, her⟩ : ∃ er, Pl.check N k D = er := ⟨_, rfl⟩
  rw [her] at hck HNE HRE
  have hne : (er != 0) = true := by simpa using hck
  have HT := Lib.hid hT
  clear her hck hT
  go_enter Tryz.func7, Tryz.ntmps7
  go_wp2_with fail
  obtain ⟨w0, hw0⟩ : ∃ w0, w.alloc (.cells #[.int .i64 N, .int .i64 k, .int .i64 D] 23) = w0 := ⟨_, rfl⟩
  rw [hw0]
  obtain ⟨X0, hb0⟩ := box1 w #[.int .i64 N, .int .i64 k, .int .i64 D] 23
  rw [hw0] at X0 hb0
  refine (c_awake w0 (HT.out.below hb0)).mono ?_
  rintro e w1 ⟨rfl, hb1⟩
  have X1 := X0.below_ hb1 X0.lt
  have HB1 := Lib.hid (hb0.trans (hb1.mono hb0.size))
  have x0 := X1.at_ 0 rfl
  have x1 := X1.at_ 1 rfl
  have x2 := X1.at_ 2 rfl
  have HX1 := Lib.hid X1
  clear hw0 X0 hb0 hb1 X1
  go_wp2_with fail
  refine (HLA.out w1).mono ?_
  rintro e w2 ⟨rfl, hb2⟩
  have X2 := HX1.out.below_ hb2 HX1.out.lt
  have HB2 := Lib.hid (HB1.out.trans (hb2.mono HB1.out.size))
  clear x0 x1 x2 hb2
  have x0 := X2.at_ 0 rfl
  have x1 := X2.at_ 1 rfl
  have x2 := X2.at_ 2 rfl
  have HX2 := Lib.hid X2
  clear X2 HX1
  go_wp2_with fail
  refine (HNE.out w2).mono ?_
  rintro e w3 ⟨rfl, hb3⟩
  have HB3 := Lib.hid (HB2.out.trans (hb3.mono HB2.out.size))
  have X3 := HX2.out.below_ hb3 HX2.out.lt
  clear x0 x1 x2 hb3
  have x0 := X3.at_ 0 rfl
  have x1 := X3.at_ 1 rfl
  have x2 := X3.at_ 2 rfl
  clear X3 HX2
  go_wp2_with fail
  refine (HRE.out w3).mono ?_
  rintro e w4 ⟨rfl, hb4⟩
  have HB4 := Lib.hid (HB3.out.trans (hb4.mono HB3.out.size))
  clear x0 x1 x2 hb4
  go_wp2
  go_ret
  exact ⟨rfl, HB4.out.alloc HB4.out.size _⟩
set_option maxHeartbeats 4000000 in
set_option maxRecDepth 100000 in
theorem c_lawRel_ok (n wt : Nat) (D : Int) (w : World) (hT : Tab w) (hck : Pl.check n ((wt : Int) + 2) D = 0) :
    Calls Tryz.prog 7 #[.agg #[.int .i64 n, .int .i64 ((wt : Int) + 2), .int .i64 D]] w fun e w' => e = .returned (.bool true) ∧ Below w.heap.size w w' := by
  obtain ⟨h1, h2, h3, h4, h5, h6⟩ := check_zero hck
  have HLA := Lib.hid (fun W => c_Large n wt D W hck)
  have HNW := Lib.hid (fun W (hb : Below w.heap.size w W) (hC : cntF n wt ≤ 72) => c_New n wt D W (hT.below hb) hck hC)
  have HRE := Lib.hid (fun W (hb : Below w.heap.size w W) (hC : cntF n wt ≤ 72) => show Calls Tryz.prog 33 #[.agg #[.int .i64 n, .int .i64 ((wt : Int) + 2), .int .i64 D]] W fun e w' => RelRet (2 * cntF n wt) (cntF n wt) (relF n wt D) e w' ∧ Below W.heap.size W w' from
    c_Relations_ok n wt D (pts n (n * n)) (cntF n wt) W (hT.below hb) (by omega) (by omega) (by omega) (by omega) (by omega) hck (kro3 D) rfl rfl (cntF_pos (by omega)) hC)
  have HRZ := Lib.hid (fun k f => rel_zero (n := n) (wt := wt) (D := D) (by omega) (k := k) (f := f))
  obtain ⟨U, hU⟩ : ∃ U, relF n wt D = U := ⟨_, rfl⟩
  have HUS := Lib.hid (show ∀ p, (U p).natAbs ≤ 16777216 from fun p => hU ▸ relF_small (by omega) p)
  rw [hU] at HRE HRZ
  have HCP := Lib.hid (show 0 < cntF n wt from cntF_pos (by omega))
  have HCS := Lib.hid (fun (hC : cntF n wt ≤ 72) j f => coord_size (n := n) (wt := wt) (D := D) (by omega) hC (j := j) (f := f))
  obtain ⟨C, hC⟩ : ∃ C, cntF n wt = C := ⟨_, rfl⟩
  have hC2 : (wt + 1) * (pts n (n * n)).length = C := hC
  rw [hC2] at HLA
  rw [hC] at HNW HCS HCP HRE HRZ
  obtain ⟨L, hL⟩ : ∃ L, elF n wt D = L := ⟨_, rfl⟩
  rw [hL] at HNW HCS HRZ
  have HT := Lib.hid hT
  clear hT hck h1 h2 h3 h4 h5 h6 hC hC2 hL hU
  go_enter Tryz.func7, Tryz.ntmps7
  go_wp2_with fail
  obtain ⟨w0, hw0⟩ : ∃ w0, w.alloc (.cells #[.int .i64 n, .int .i64 ((wt : Int) + 2), .int .i64 D] 23) = w0 := ⟨_, rfl⟩
  rw [hw0]
  obtain ⟨X0, hb0⟩ := box1 w #[.int .i64 n, .int .i64 ((wt : Int) + 2), .int .i64 D] 23
  rw [hw0] at X0 hb0
  refine (c_awake w0 (HT.out.below hb0)).mono ?_
  rintro e w1 ⟨rfl, hb1⟩
  have X1 := X0.below_ hb1 X0.lt
  have HB1 := Lib.hid (hb0.trans (hb1.mono hb0.size))
  have x0 := X1.at_ 0 rfl
  have x1 := X1.at_ 1 rfl
  have x2 := X1.at_ 2 rfl
  have HX1 := Lib.hid X1
  clear hw0 X0 hb0 hb1 X1
  go_wp2_with fail
  refine (HLA.out w1).mono ?_
  rintro e w2 ⟨rfl, hb2⟩
  have X2 := HX1.out.below_ hb2 HX1.out.lt
  have HB2 := Lib.hid (HB1.out.trans (hb2.mono HB1.out.size))
  clear x0 x1 x2 hb2
  have x0 := X2.at_ 0 rfl
  have x1 := X2.at_ 1 rfl
  have x2 := X2.at_ 2 rfl
  have HX2 := Lib.hid X2
  clear X2 HX1
  by_cases hbig : 72 < C
  · have hd : decide (72 < C) = true := decide_eq_true hbig
    rw [hd]
    go_wp2
    go_ret
    exact ⟨rfl, HB2.out⟩
  have hd : decide (72 < C) = false := decide_eq_false hbig
  rw [hd]
  clear hd
  go_wp2_with fail
  refine (HNW.out w2 HB2.out (by omega)).mono ?_
  rintro e w3 ⟨⟨M, rfl, hM, hmod⟩, hb3⟩
  obtain ⟨F, hF⟩ : ∃ F, frs L C = F := ⟨_, rfl⟩
  have HFL := Lib.hid (show F.length ≤ 72 from Nat.le_trans (hF ▸ frs_length L C) (by omega))
  have HME := Lib.hid (show ∀ x, x ∈ F → x < C from fun x h => by rw [← hF] at h; exact (frs_mem.1 h).1)
  rw [hF] at hmod HCS HRZ
  obtain ⟨X, hX⟩ : ∃ X, crd L C C = X := ⟨_, rfl⟩
  rw [hX] at hmod HCS HRZ
  have HCL := Lib.hid (show C ≤ 72 by omega)
  have HCS := Lib.hid (HCS.out (by omega))
  have HXS := Lib.hid (show ∀ j f, j < C → f ∈ F → hq (X j f) ≤ 10000 from fun j f hj hf => Nat.le_trans (HCS.out j f hj hf) (by omega))
  have HB3 := Lib.hid (HB2.out.trans (hb3.mono HB2.out.size))
  have X3 := HX2.out.below_ hb3 HX2.out.lt
  have HMO3 := Lib.hid (fun W (hb : Below w3.heap.size w3 W) => hmod.keep (Nat.le_refl _) hb)
  clear x0 x1 x2 hM hmod hb3 hF hX HNW HLA HT HX2 hbig
  have x0 := X3.at_ 0 rfl
  have x1 := X3.at_ 1 rfl
  have x2 := X3.at_ 2 rfl
  clear X3
  go_wp2_with fail
  refine (HRE.out w3 HB3.out HCL.out).mono ?_
  rintro e w4 ⟨⟨gA, oA, cA, rfl, hgA, hze, hc1, hc2⟩, hb4⟩
  obtain ⟨R2, hR2⟩ : ∃ R, 2 * C = R := ⟨_, rfl⟩
  obtain ⟨RC, hRC⟩ : ∃ R, R2 * C = R := ⟨_, rfl⟩
  rw [hR2] at hze hc1 HRZ ⊢
  rw [hRC] at hze hc1 ⊢
  have hRCb : RC ≤ 10368 := by
    rw [← hRC, ← hR2]
    exact Nat.mul_le_mul (by have := HCL.out; omega : 2 * C ≤ 144) HCL.out
  have HB4 := Lib.hid (HB3.out.trans (hb4.mono HB3.out.size))
  have HK4 := Lib.hid hb4
  have HZE := Lib.hid hze
  have HGA := Lib.hid hgA
  have HRC := Lib.hid hRC
  have HR2 := Lib.hid hR2
  clear x0 x1 x2 hb4 hze hgA hc1 hc2 HRE hRC hR2
  go_wp2_with fail
  obtain ⟨w5, hw5⟩ : ∃ w5, w4.alloc (.cells #[.int .i64 (R2 : Int), .int .i64 (C : Int), .slice (some ⟨gA, oA, none⟩) RC cA] 76) = w5 := ⟨_, rfl⟩
  have hb5 : Below w4.heap.size w4 w5 := hw5 ▸ (Below.refl _ _).alloc (Nat.le_refl _) _
  rw [hw5]
  refine (c_Rational R2 C gA oA cA RC U w5 (fun j hj => (HZE.out j hj).keep hb5) (Nat.lt_of_lt_of_le HGA.out hb5.size) (fun j _ => Nat.le_trans (nd_small (by have := HUS.out j; omega)) (by omega)) (by omega)).mono ?_
  rintro e w6 ⟨⟨vq, rfl, hoq⟩, hb6⟩
  obtain ⟨gq, cq, rfl, hgq, hrq⟩ := hoq.row.resolve_left (fun h => by
    have h1 := HCP.out
    have h2 := HRC.out
    have h3 := HR2.out
    have h4 : 0 < R2 * C := Nat.mul_pos (by omega) h1
    omega)
  have hcaps := hoq.caps
  have hb56 := hb5.trans (hb6.mono hb5.size)
  have HB6 := Lib.hid (HB4.out.trans (hb56.mono HB4.out.size))
  have HK6 := Lib.hid (HK4.out.trans (hb56.mono HK4.out.size))
  have HRQ := Lib.hid hrq
  clear hw5 hb5 hb6 hb56 hoq hgq hrq HZE HGA HB4 HK4
  have hmul : (R2 : Int) * (C : Int) = (RC : Nat) := by rw [← HRC.out]; push_cast; rfl
  have hwrap : IntKind.i64.wrap (RC : Int) = (RC : Nat) := IntWalk.i64_in _ (by omega)
  have hbx6 : Below w6.heap.size w6 (w6.alloc (.cells #[.int .i64 (R2 : Int), .int .i64 (C : Int), .slice (some ⟨gq, 0, none⟩) RC cq] 51)) := (Below.refl _ _).alloc (Nat.le_refl _) _
  go_wp2_with fail
  obtain ⟨w7, hw7⟩ : ∃ w7, w6.alloc (.cells #[.int .i64 (R2 : Int), .int .i64 (C : Int), .slice (some ⟨gq, 0, none⟩) RC cq] 51) = w7 := ⟨_, rfl⟩
  obtain ⟨X7, _⟩ := box1 w6 #[.int .i64 (R2 : Int), .int .i64 (C : Int), .slice (some ⟨gq, 0, none⟩) RC cq] 51
  rw [hw7] at X7 hbx6 ⊢
  obtain ⟨bq, hbq⟩ : ∃ x, w6.heap.size = x := ⟨_, rfl⟩
  rw [hbq] at X7 ⊢
  have HX7 := Lib.hid X7
  have HB7 := Lib.hid (HB6.out.trans (hbx6.mono HB6.out.size))
  have HK7 := Lib.hid (HK6.out.trans (hbx6.mono HK6.out.size))
  have HRQ7 := Lib.hid (HRQ.out.keep (fun _ => IsQ.solid _) hbx6)
  clear hw7 X7 hbx6 hbq HRQ HB6 HK6 hmul hwrap
  go_loopw [8] (fun ii wr => ∃ k : Nat, k ≤ R2 ∧ ii = .int .i64 k ∧ Below w7.heap.size w7 wr) (fun ii _ => R2 - (intOf ii).toNat)
  case atStart => exact ⟨0, Nat.zero_le _, rfl, Below.refl _ _⟩
  case round =>
    obtain ⟨k, hk, rfl, hbe⟩ := hrel
    obtain ⟨we, rfl⟩ : ∃ we : World, we = wr := ⟨_, rfl⟩
    have HBE := Lib.hid hbe
    have y0 := (HX7.out.below_ hbe HX7.out.lt).at_ 0 rfl
    have y1 := (HX7.out.below_ hbe HX7.out.lt).at_ 1 rfl
    have y2 := (HX7.out.below_ hbe HX7.out.lt).at_ 2 rfl
    by_cases hlt : k < R2
    · have hki : (k : Int) < (R2 : Int) := by omega
      have hR144 : R2 ≤ 144 := by have := HR2.out; have := HCL.out; omega
      obtain ⟨KC, hKC⟩ : ∃ n, k * C = n := ⟨_, rfl⟩
      have hkr : KC + C ≤ RC := by
        have h1 := Nat.mul_le_mul_right C (show k + 1 ≤ R2 by omega)
        have h2 := HRC.out
        rw [Nat.succ_mul] at h1
        omega
      have e1 : (k : Int) * (C : Int) = (KC : Nat) := by rw [← hKC]; push_cast; rfl
      have e2 : ((k : Int) + 1) * (C : Int) = ((KC + C : Nat)) := by rw [Int.add_mul, e1]; push_cast; omega
      have hcq : RC ≤ cq := hcaps.1
      have hcq2 : cq ≤ 9223372036854775807 := hcaps.2
      have HQV := Lib.hid (show ∀ cv, QL (fun j => IsQ ((rowF C U k j : Int) : Rat)) we (.slice (some ⟨gq, 0 + KC * 4, none⟩) C cv) C from fun cv => .inr ⟨gq, 0 + KC * 4, cv, rfl, Nat.lt_of_lt_of_le HRQ7.out.sts.1 hbe.size, fun j hj => by
        have h := (HRQ7.out.val (KC + j) (by omega)).keep (IsQ.solid _) hbe
        rw [show (KC + j) * 4 = 0 + KC * 4 + j * 4 by omega] at h
        unfold rowF
        dsimp only
        rw [if_pos hj, hKC]
        exact h⟩)
      have HVS := Lib.hid (show ∀ j, hq ((rowF C U k j : Int) : Rat) ≤ 10000 from fun j => by
        rw [hq_int]
        have h1 : (rowF C U k j).natAbs ≤ 16777216 := by
          unfold rowF
          split
          · exact HUS.out _
          · decide
        have h2 := nd_small (x := rowF C U k j) (by omega)
        omega)
      have HZK := Lib.hid (show ∀ f, f ∈ F → vecS (fun q => ((rowF C U k q : Int) : Rat)) X C f = 0 from fun f hf => HRZ.out k f hlt hf)
      have hRb := hRCb
      have hC0 : 0 < C := HCP.out
      have hcz : ¬ (cq - KC = 0) := by omega
      clear hKC hbe
      go_wp2_with fail
      try rw [show KC + C - KC = C by omega]
      have HKE := Lib.hid (HK7.out.trans (HBE.out.mono HK7.out.size))
      have hw3 := HKE.out.size
      refine (c_Vector M w3.heap.size n ((wt : Int) + 2) D F C X _ (fun j => ((rowF C U k j : Int) : Rat)) we (HMO3.out _ HKE.out) hw3 (by first | exact HQV.out _ | (simpa using HQV.out _)) HCP.out (by have := HCL.out; omega) (by have := HFL.out; omega) (fun j _ => HVS.out j) HXS.out).mono ?_
      rintro e w8 ⟨⟨gu, rfl, _, hru⟩, hb8⟩
      have HRU := Lib.hid (show QL (fun _ => IsQ 0) w8 (.slice (some ⟨gu, 0, none⟩) F.length F.length) F.length from (QRow.congr hru (fun i hi => by rw [HZK.out _ (by rw [List.getD_eq_getElem?_getD, List.getElem?_eq_getElem hi]; exact List.getElem_mem hi)])).ql _)
      have HB8 := Lib.hid (HBE.out.trans (hb8.mono HBE.out.size))
      have HK8 := Lib.hid (HKE.out.trans (hb8.mono HKE.out.size))
      clear hru hb8 y0 y1 y2 e1 e2 hkr hcq hcq2 hw3
      go_wp2_with fail
      refine (c_Dim M w3.heap.size n ((wt : Int) + 2) D F C X w8 (HMO3.out _ HK8.out)).mono ?_
      rintro e w' ⟨rfl, hw'⟩
      obtain rfl : w8 = w' := hw'.symm
      go_wp2_with fail
      refine (c_zeros _ F.length w8 HRU.out (by have := HFL.out; omega)).mono ?_
      rintro e w9 ⟨rfl, hb9⟩
      have HB9 := Lib.hid (HB8.out.trans (hb9.mono HB8.out.size))
      clear hb9
      go_wp2
      go_roundw
      case rel => exact ⟨k + 1, by omega, by go_num, HB9.out⟩
      case measure => simp [intOf]; omega
    · obtain rfl : R2 = k := by omega
      clear hbe
      go_wp2
      go_ret
      exact ⟨rfl, HB7.out.trans (HBE.out.mono HB7.out.size)⟩
theorem c_lawRel (N k D : Int) (w : World) (hT : Tab w) :
    Calls Tryz.prog 7 #[.agg #[.int .i64 N, .int .i64 k, .int .i64 D]] w fun e w' => e = .returned (.bool true) ∧ Below w.heap.size w w' := by
  by_cases hck : Pl.check N k D = 0
  · obtain ⟨h1, h2, h3, h4, _, _⟩ := check_zero hck
    obtain ⟨n, rfl⟩ : ∃ n : Nat, N = n := ⟨N.toNat, by omega⟩
    obtain ⟨wt, rfl⟩ : ∃ wt : Nat, k = (wt : Int) + 2 := ⟨(k - 2).toNat, by omega⟩
    exact c_lawRel_ok n wt D w hT hck
  · exact c_lawRel_bad N k D w hT hck
end Go.Proofs.YthikonjlgljikaaGreatDoor
