/- What the reference's function distances comes to, and what its table says of walks. Conditions: up to 13 places, arcs between them, numbers up to 3000000 in size, at most 1000 arcs. -/
import Derived.Test.YteebkkdbkkibmaaPc
namespace Go.Proofs.Yteebkkdbkkibmaa.Pure
open Go.RowKit Go.Proofs.Yteebkkdbkkibmaa.Pr Go.Proofs.YteebkkdbkkibmaaW.PrintWords Go.Proofs.YteebkkdbkkibmaaW.PrintLast Go.Proofs.YteebkkdbkkibmaaW.PrintMore Go.Proofs.Yteebkkdbkkibmaa.Bf
set_option linter.unusedVariables false

/-! ### The tables and walks -/
def exactT (l : List Arc) : Nat → Nat → Nat → Int
  | 0 => diag far 0
  | k + 1 => fur l (exactT l k)
def bestT (l : List Arc) : Nat → Nat → Nat → Int
  | 0 => diag far 0
  | k + 1 => fun i j => min (bestT l k i j) (exactT l (k + 1) i j)
def small (l : List Arc) : Prop := ∀ a ∈ l, -3000000 ≤ a.c ∧ a.c ≤ 3000000
theorem wsum_small {l : List Arc} (hs : small l) : ∀ (w : List Arc) (i j : Nat), IsWalk l i w j → -(w.length * 3000000 : Int) ≤ wsum w ∧ wsum w ≤ w.length * 3000000
  | [], _, _, _ => by simp [wsum]
  | a :: w, i, j, ⟨h1, h2, h3⟩ => by
    have := wsum_small hs w a.t j h3
    have := hs a h1
    simp only [wsum, List.length_cons]
    omega
theorem fur_fold (T : Nat → Nat → Int) (i j : Nat) : ∀ (l : List Arc) (O : Nat → Nat → Int), (l.foldl (stepT T) O) i j = l.foldl (fun m a => if i = a.s ∧ T a.t j < far then min m (a.c + T a.t j) else m) (O i j)
  | [], O => rfl
  | a :: l, O => by
    simp only [List.foldl_cons]
    rw [fur_fold T i j l (stepT T O a)]
    rfl
theorem foldp_le {f : Arc → Int} {p : Arc → Prop} [DecidablePred p] : ∀ (l : List Arc) (x : Int), l.foldl (fun m a => if p a then min m (f a) else m) x ≤ x ∧ ∀ a ∈ l, p a → l.foldl (fun m a => if p a then min m (f a) else m) x ≤ f a
  | [], x => ⟨by simp, fun a ha => by cases ha⟩
  | b :: l, x => by
    have h := foldp_le (f := f) (p := p) l (if p b then min x (f b) else x)
    simp only [List.foldl_cons]
    refine ⟨Int.le_trans h.1 (by split <;> omega), fun a ha hs => ?_⟩
    rcases List.mem_cons.1 ha with rfl | ha
    · exact Int.le_trans h.1 (by rw [if_pos hs]; omega)
    · exact h.2 a ha hs
theorem foldp_eq {f : Arc → Int} {p : Arc → Prop} [DecidablePred p] : ∀ (l : List Arc) (x : Int), l.foldl (fun m a => if p a then min m (f a) else m) x = x ∨ ∃ a ∈ l, p a ∧ l.foldl (fun m a => if p a then min m (f a) else m) x = f a
  | [], x => .inl rfl
  | b :: l, x => by
    simp only [List.foldl_cons]
    rcases foldp_eq (f := f) (p := p) l (if p b then min x (f b) else x) with h | ⟨a, ha, hs, h⟩
    · rw [h]
      split
      · rename_i hb
        by_cases hx : x ≤ f b
        · exact .inl (by omega)
        · exact .inr ⟨b, by simp, hb, by omega⟩
      · exact .inl rfl
    · exact .inr ⟨a, by simp [ha], hs, h⟩
theorem fur_spec (l : List Arc) (T : Nat → Nat → Int) (i j : Nat) : fur l T i j ≤ far ∧ (∀ a ∈ l, a.s = i → T a.t j < far → fur l T i j ≤ a.c + T a.t j) ∧ (fur l T i j = far ∨ ∃ a ∈ l, a.s = i ∧ T a.t j < far ∧ fur l T i j = a.c + T a.t j) := by
  unfold fur
  rw [fur_fold]
  have h1 := foldp_le (f := fun a => a.c + T a.t j) (p := fun a => i = a.s ∧ T a.t j < far) l far
  have h2 := foldp_eq (f := fun a => a.c + T a.t j) (p := fun a => i = a.s ∧ T a.t j < far) l far
  refine ⟨h1.1, fun a ha hs ht => h1.2 a ha ⟨hs.symm, ht⟩, ?_⟩
  rcases h2 with h | ⟨a, ha, ⟨hs, ht⟩, h⟩
  · exact .inl h
  · exact .inr ⟨a, ha, hs.symm, ht, h⟩
theorem exact_spec {l : List Arc} (hs : small l) : ∀ (k : Nat), k ≤ 100 → ∀ i j, (exactT l k i j = far ∨ ∃ w, IsWalk l i w j ∧ w.length = k ∧ exactT l k i j = wsum w) ∧ ∀ w, IsWalk l i w j → w.length = k → exactT l k i j ≤ wsum w
  | 0, _, i, j => by
    unfold exactT diag
    by_cases hij : i = j
    · subst hij
      rw [if_pos rfl]
      exact ⟨.inr ⟨[], rfl, rfl, rfl⟩, fun w hw hl => by
        obtain rfl := List.eq_nil_of_length_eq_zero hl
        exact Int.le_refl _⟩
    · rw [if_neg hij]
      exact ⟨.inl rfl, fun w hw hl => by
        obtain rfl := List.eq_nil_of_length_eq_zero hl
        exact absurd hw hij⟩
  | k + 1, hk, i, j => by
    obtain ⟨h1, h2, h3⟩ := fur_spec l (exactT l k) i j
    refine ⟨?_, fun w hw hl => ?_⟩
    · rcases h3 with h | ⟨a, ha, has, hat, h⟩
      · exact .inl h
      · rcases (exact_spec hs k (by omega) a.t j).1 with h4 | ⟨w, hw, hl, h4⟩
        · omega
        · exact .inr ⟨a :: w, ⟨ha, has, hw⟩, by simp [hl], by show fur l (exactT l k) i j = a.c + wsum w; omega⟩
    · cases w with
      | nil => simp at hl
      | cons a w =>
        obtain ⟨ha, has, hw⟩ := hw
        have hl' : w.length = k := by simpa using hl
        have h4 := (exact_spec hs k (by omega) a.t j).2 w hw hl'
        have h5 := wsum_small hs w a.t j hw
        have h6 := h2 a ha has (by unfold far; omega)
        show fur l (exactT l k) i j ≤ a.c + wsum w
        omega
theorem exact_sane {l : List Arc} (hs : small l) (k : Nat) (hk : k ≤ 100) : sane (exactT l k) := by
  intro i j
  rcases (exact_spec hs k hk i j).1 with h | ⟨w, hw, hl, h⟩
  · unfold far at h; omega
  · have := wsum_small hs w i j hw
    omega
theorem best_spec {l : List Arc} (hs : small l) : ∀ (k : Nat), k ≤ 100 → ∀ i j, (bestT l k i j = far ∨ ∃ w, IsWalk l i w j ∧ w.length ≤ k ∧ bestT l k i j = wsum w) ∧ ∀ w, IsWalk l i w j → w.length ≤ k → bestT l k i j ≤ wsum w
  | 0, _, i, j => by
    obtain ⟨h1, h2⟩ := exact_spec hs 0 (by omega) i j
    refine ⟨?_, fun w hw hl => h2 w hw (by omega)⟩
    rcases h1 with h | ⟨w, hw, hl, h⟩
    · exact .inl h
    · exact .inr ⟨w, hw, by omega, h⟩
  | k + 1, hk, i, j => by
    obtain ⟨h1, h2⟩ := exact_spec hs (k + 1) hk i j
    obtain ⟨h3, h4⟩ := best_spec hs k (by omega) i j
    have he : bestT l (k + 1) i j = min (bestT l k i j) (exactT l (k + 1) i j) := rfl
    refine ⟨?_, fun w hw hl => ?_⟩
    · by_cases hle : bestT l k i j ≤ exactT l (k + 1) i j
      · rcases h3 with h | ⟨w, hw, hl, h⟩
        · exact .inl (by omega)
        · exact .inr ⟨w, hw, by omega, by omega⟩
      · rcases h1 with h | ⟨w, hw, hl, h⟩
        · exact .inl (by omega)
        · exact .inr ⟨w, hw, by omega, by omega⟩
    · by_cases hlk : w.length ≤ k
      · have := h4 w hw hlk
        omega
      · have := h2 w hw (by omega)
        omega
/-- A place in which a closed walk gains is told by the table, exactly if there is no solution. -/
theorem diag_neg {l : List Arc} {N k : Nat} (hs : small l) (hl : InN N l) (hk : N ≤ k) (hk2 : k ≤ 100) : (∃ i, i < N ∧ bestT l k i i < 0) ↔ ¬ Feas l := by
  constructor
  · rintro ⟨i, _, hi⟩ hf
    rcases (best_spec hs k hk2 i i).1 with h | ⟨w, hw, _, h⟩
    · unfold far at h; omega
    · have := feas_closed hf i w hw
      omega
  · intro hf
    obtain ⟨i, w, hw, hneg, hlen⟩ := infeas_neg hl hf
    have hne : w ≠ [] := by rintro rfl; simp [wsum] at hneg
    have hi := (walk_lt hl w i i hw hne).1
    have := (best_spec hs k hk2 i i).2 w hw (by omega)
    exact ⟨i, hi, by omega⟩

/-! ### The program of the reference -/
def part (B U : Nat → Nat → Int) (i j : Nat) : Nat → Nat → Int := fun a b => if a < i ∨ (a = i ∧ b < j) then min (B a b) (U a b) else B a b
theorem dists_l2 {N : Nat} (hN : N ≤ 13) (n : Int) (hn : n + 1 = N) (L : List S79) (B U : Nat → Nat → Int) (kk : Int) (i : Nat) (hi : i < N) {R : List (List Int) × Bool}
    (hR : Ev (fun q => scarfjointref03_distances.l1 q n L (tab2 N (part B U (i + 1) 0)) (tab2 N U) kk ((i + 1 : Nat) : Int)) R) :
    ∀ (m j : Nat), j + m = N → Ev (fun q => scarfjointref03_distances.l2 q n L (tab2 N (part B U i j)) (tab2 N U) kk (i : Int) (j : Int)) R
  | 0, j, hj => by
    have hw : wrap64 ((i : Int) + 1) = ((i + 1 : Nat) : Int) := by rw [w64 (by omega)]; omega
    obtain rfl : j = N := by omega
    have he : tab2 j (part B U i j) = tab2 j (part B U (i + 1) 0) := tab2_congr fun x hx y hy => by
      unfold part
      by_cases hc : x < i ∨ x = i ∧ y < j
      · rw [if_pos hc, if_pos (by omega)]
      · rw [if_neg hc, if_neg (by omega)]
    rw [he]
    refine Ev.step (fun q => ?_) hR
    rw [scarfjointref03_distances.l2, if_neg (by omega), hw]
  | m + 1, j, hj => by
    have hw : wrap64 ((j : Int) + 1) = ((j + 1 : Nat) : Int) := by rw [w64 (by omega)]; omega
    have ih := dists_l2 hN n hn L B U kk i hi hR m (j + 1) (by omega)
    have hin : (i : Int).toNat = i := by omega
    have hjn : (j : Int).toNat = j := by omega
    have hrow : part B U i j i j = B i j := by unfold part; rw [if_neg (by omega)]
    have he : tab2 N (part B U i (j + 1)) = tab2 N (upd2 (part B U i j) i j (min (B i j) (U i j))) := tab2_congr fun x hx y hy => by
      unfold upd2 part
      by_cases hx1 : x = i
      · subst hx1
        rw [if_pos rfl]
        by_cases hy1 : y = j
        · subst hy1; rw [if_pos rfl, if_pos (by omega)]
        · rw [if_neg hy1]
          by_cases hy2 : y < j
          · rw [if_pos (by omega), if_pos (by omega)]
          · rw [if_neg (by omega), if_neg (by omega)]
      · rw [if_neg hx1]
        by_cases hx2 : x < i
        · rw [if_pos (by omega), if_pos (by omega)]
        · rw [if_neg (by omega), if_neg (by omega)]
    rw [he] at ih
    refine Ev.step (fun q => ?_) ih
    rw [scarfjointref03_distances.l2, if_pos (by omega), if_pos (by omega), tab2_len, if_pos (by omega), if_pos (by omega), tab2_rd (by omega) (by omega), tab_len, if_pos (by omega), tab2_len, if_pos (by omega), tab2_rd (by omega) (by omega), tab_len, if_pos (by omega), tab_rd (by omega) (by omega), tab_rd (by omega) (by omega), hin, hjn, mn_min, hrow, tab2_set, hw]
theorem dists_l1 {N : Nat} (hN : N ≤ 13) (n : Int) (hn : n + 1 = N) (L : List S79) (B U : Nat → Nat → Int) (kk : Nat) (hkk : kk ≤ 100) {R : List (List Int) × Bool}
    (hR : Ev (fun q => scarfjointref03_distances.l0 q n L (tab2 N (fun i j => min (B i j) (U i j))) (tab2 N U) ((kk + 1 : Nat) : Int)) R) :
    ∀ (m i : Nat), i + m = N → Ev (fun q => scarfjointref03_distances.l1 q n L (tab2 N (part B U i 0)) (tab2 N U) (kk : Int) (i : Int)) R
  | 0, i, hi => by
    have hw : wrap64 ((kk : Int) + 1) = ((kk + 1 : Nat) : Int) := by rw [w64 (by omega)]; omega
    obtain rfl : i = N := by omega
    have he : tab2 i (part B U i 0) = tab2 i (fun i j => min (B i j) (U i j)) := tab2_congr fun x hx y hy => by
      unfold part
      rw [if_pos (by omega)]
    rw [he]
    refine Ev.step (fun q => ?_) hR
    rw [scarfjointref03_distances.l1, if_neg (by omega), hw]
  | m + 1, i, hi => by
    have ih := dists_l1 hN n hn L B U kk hkk hR m (i + 1) (by omega)
    refine Ev.step (f := fun q => scarfjointref03_distances.l2 q n L (tab2 N (part B U i 0)) (tab2 N U) (kk : Int) (i : Int) ((0 : Nat) : Int)) (fun q => ?_) (dists_l2 hN n hn L B U (kk : Int) i (by omega) ih N 0 (by omega))
    rw [scarfjointref03_distances.l1, if_pos (by omega)]
    rfl
theorem dists_l3 {N : Nat} (hN : N ≤ 13) (n : Int) (hn : n + 1 = N) (B : Nat → Nat → Int) {R : List (List Int) × Bool} (hR : ((∃ i, i < N ∧ B i i < 0) → R = ([], false)) ∧ ((¬ ∃ i, i < N ∧ B i i < 0) → R = (tab2 N B, true))) :
    ∀ (m i : Nat), i + m = N → (∀ i', i' < i → ¬ B i' i' < 0) → Ev (fun q => scarfjointref03_distances.l3 q n (tab2 N B) (i : Int)) R
  | 0, i, hi, hno => by
    rw [hR.2 (by rintro ⟨j, hj, hb⟩; exact hno j (by omega) hb)]
    refine Ev.step (f := fun _ => some (tab2 N B, true)) (fun q => ?_) (Ev.now _)
    rw [scarfjointref03_distances.l3, if_neg (by omega)]
  | m + 1, i, hi, hno => by
    have hw : wrap64 ((i : Int) + 1) = ((i + 1 : Nat) : Int) := by rw [w64 (by omega)]; omega
    have hin : (i : Int).toNat = i := by omega
    by_cases hneg : B i i < 0
    · rw [hR.1 ⟨i, by omega, hneg⟩]
      refine Ev.step (f := fun _ => some ([], false)) (fun q => ?_) (Ev.now _)
      rw [scarfjointref03_distances.l3, if_pos (by omega), if_pos (by omega), tab2_len, if_pos (by omega), tab2_rd (by omega) (by omega), tab_len, if_pos (by omega), tab_rd (by omega) (by omega), hin, if_pos hneg]
    · have ih := dists_l3 hN n hn B hR m (i + 1) (by omega) (fun i' hi' => by
        by_cases he : i' = i
        · rw [he]; exact hneg
        · exact hno i' (by omega))
      refine Ev.step (fun q => ?_) ih
      rw [scarfjointref03_distances.l3, if_pos (by omega), if_pos (by omega), tab2_len, if_pos (by omega), tab2_rd (by omega) (by omega), tab_len, if_pos (by omega), tab_rd (by omega) (by omega), hin, if_neg hneg, hw]
theorem good_small {N : Nat} {l : List S71} (hg : good N l) : small (l.map toA) := by
  intro a ha
  obtain ⟨b, hb, rfl⟩ := List.mem_map.1 ha
  have := hg b hb
  unfold goodA at this
  simp only [toA]
  omega
theorem dists_l0 {N : Nat} (hN : N ≤ 13) (n : Int) (hn : n + 1 = N) {l : List S71} (hl : l.length ≤ 1000) (hg : good N l) {R : List (List Int) × Bool} (hR : ((∃ i, i < N ∧ bestT (l.map toA) (N + 1) i i < 0) → R = ([], false)) ∧ ((¬ ∃ i, i < N ∧ bestT (l.map toA) (N + 1) i i < 0) → R = (tab2 N (bestT (l.map toA) (N + 1)), true))) :
    ∀ (m k : Nat), k + m = N + 1 → Ev (fun q => scarfjointref03_distances.l0 q n (l.map to79) (tab2 N (bestT (l.map toA) k)) (tab2 N (exactT (l.map toA) k)) (k : Int)) R
  | 0, k, hk => by
    obtain rfl : k = N + 1 := by omega
    have hw : wrap64 (n + 1) = (N : Int) := by rw [w64 (by omega)]; omega
    refine Ev.step (f := fun q => scarfjointref03_distances.l3 q n (tab2 N (bestT (l.map toA) (N + 1))) ((0 : Nat) : Int)) (fun q => ?_) (dists_l3 hN n hn _ hR N 0 (by omega) (fun i' h => by omega))
    rw [scarfjointref03_distances.l0, hw, if_neg (by omega)]
    rfl
  | m + 1, k, hk => by
    have ih := dists_l0 hN n hn hl hg hR m (k + 1) (by omega)
    have hw : wrap64 (n + 1) = (N : Int) := by rw [w64 (by omega)]; omega
    have h1 := dists_l1 hN n hn (l.map to79) (bestT (l.map toA) k) (exactT (l.map toA) (k + 1)) k (by omega) ih N 0 (by omega)
    have he : tab2 N (part (bestT (l.map toA) k) (exactT (l.map toA) (k + 1)) 0 0) = tab2 N (bestT (l.map toA) k) := tab2_congr fun x hx y hy => by unfold part; rw [if_neg (by omega)]
    rw [he] at h1
    refine Ev.step (f := fun q => (scarfjointref03_further.f q n (l.map to79) (tab2 N (exactT (l.map toA) k))).bind fun t145 => (scarfjointref03_distances.l1 q n (l.map to79) (tab2 N (bestT (l.map toA) k)) t145 (k : Int) 0)) (fun q => ?_) (Ev.bind (further_ev hN n hn hl hg (exact_sane (good_small hg) k (by omega))) h1)
    rw [scarfjointref03_distances.l0, hw, if_pos (by omega)]
theorem Dists_ev {n : Int} (h0 : 0 ≤ n) (h12 : n ≤ 12) {L : List S26} (hL : L.length ≤ 400) (hg : good (n.toNat + 1) (arcsF 0 L)) {R : List (List Int) × Bool}
    (hR : (Feas ((arcsF 0 L).map toA) → R = (tab2 (n.toNat + 1) (bestT ((arcsF 0 L).map toA) (n.toNat + 2)), true)) ∧ (¬ Feas ((arcsF 0 L).map toA) → R = ([], false))) :
    Ev (fun q => scarfjointref03_distances.f q n L) R := by
  have hlen := arcsF_len 0 L
  have hd := diag_neg (k := n.toNat + 2) (good_small hg) (good_inN hg) (by omega) (by omega)
  unfold scarfjointref03_distances.f
  refine Ev.bind (Arcs_ev L (by omega)) ?_
  refine Ev.bind (square_ev (N := n.toNat + 1) (by omega) n _ _ (by omega)) ?_
  refine Ev.bind (square_ev (N := n.toNat + 1) (by omega) n _ _ (by omega)) ?_
  exact dists_l0 (N := n.toNat + 1) (by omega) n (by omega) (by omega) hg ⟨fun h => hR.2 (hd.1 h), fun h => hR.1 (Classical.byContradiction fun hf => h (hd.2 hf))⟩ (n.toNat + 2) 0 (by omega)
end Go.Proofs.Yteebkkdbkkibmaa.Pure
