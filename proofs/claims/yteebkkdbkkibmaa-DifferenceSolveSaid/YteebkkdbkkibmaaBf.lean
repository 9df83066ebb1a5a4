/- Difference constraints as arcs between places: a system has a solution exactly if no closed walk has a negative sum; shortest walks have at most as many arcs as there are places. Conditions: none (plain mathematics, no program). -/
namespace Go.Proofs.Yteebkkdbkkibmaa.Bf

/-- v s ≤ v t + c. -/
structure Arc where
  s : Nat
  t : Nat
  c : Int

def Sat (v : Nat → Int) (l : List Arc) : Prop := ∀ a ∈ l, v a.s ≤ v a.t + a.c
def Feas (l : List Arc) : Prop := ∃ v, Sat v l
def InN (N : Nat) (l : List Arc) : Prop := ∀ a ∈ l, a.s < N ∧ a.t < N

def IsWalk (l : List Arc) : Nat → List Arc → Nat → Prop
  | i, [], j => i = j
  | i, a :: w, j => a ∈ l ∧ a.s = i ∧ IsWalk l a.t w j
def wsum : List Arc → Int
  | [] => 0
  | a :: w => a.c + wsum w

theorem wsum_append : ∀ p q : List Arc, wsum (p ++ q) = wsum p + wsum q
  | [], q => by simp [wsum]
  | a :: p, q => by simp only [List.cons_append, wsum, wsum_append p q]; omega
theorem walk_append {l : List Arc} : ∀ (p q : List Arc) (i j : Nat), IsWalk l i (p ++ q) j ↔ ∃ m, IsWalk l i p m ∧ IsWalk l m q j
  | [], q, i, j => by
    constructor
    · intro h; exact ⟨i, rfl, h⟩
    · rintro ⟨m, h, k⟩; cases h; exact k
  | a :: p, q, i, j => by
    constructor
    · rintro ⟨h1, h2, h3⟩
      obtain ⟨m, h4, h5⟩ := (walk_append p q a.t j).1 h3
      exact ⟨m, ⟨h1, h2, h4⟩, h5⟩
    · rintro ⟨m, ⟨h1, h2, h4⟩, h5⟩
      exact ⟨h1, h2, (walk_append p q a.t j).2 ⟨m, h4, h5⟩⟩
theorem walk_sat {l : List Arc} {v : Nat → Int} (h : Sat v l) : ∀ (w : List Arc) (i j : Nat), IsWalk l i w j → v i ≤ v j + wsum w
  | [], i, j, hw => by cases hw; simp [wsum]
  | a :: w, i, j, ⟨h1, h2, h3⟩ => by
    have := h a h1
    have := walk_sat h w a.t j h3
    subst h2
    simp only [wsum]
    omega
theorem walk_lt {l : List Arc} {N : Nat} (hl : InN N l) : ∀ (w : List Arc) (i j : Nat), IsWalk l i w j → w ≠ [] → i < N ∧ j < N
  | [a], i, j, ⟨h1, h2, h3⟩, _ => by cases h3; subst h2; exact hl a h1
  | a :: b :: w, i, j, ⟨h1, h2, h3⟩, _ => by subst h2; exact ⟨(hl a h1).1, (walk_lt hl (b :: w) a.t j h3 (by simp)).2⟩
  | [], _, _, _, hne => absurd rfl hne

theorem nodup_le : ∀ (N : Nat) (l : List Nat), l.Nodup → (∀ x ∈ l, x < N) → l.length ≤ N
  | 0, l, _, hb => by
    cases l with
    | nil => simp
    | cons x l => exact absurd (hb x (by simp)) (by omega)
  | N + 1, l, h, hb => by
    by_cases hm : N ∈ l
    · have h1 := nodup_le N (l.erase N) (h.erase N) (fun x hx => by
        have h2 := (h.mem_erase_iff).1 hx
        have := hb x h2.2
        have := h2.1
        omega)
      rw [List.length_erase_of_mem hm] at h1
      omega
    · have h1 := nodup_le N l h (fun x hx => by
        have := hb x hx
        have : x ≠ N := fun e => hm (e ▸ hx)
        omega)
      omega

/-- A walk from no place twice, or a part of it is closed. -/
theorem walk_parts {l : List Arc} : ∀ (w : List Arc) (i j : Nat), IsWalk l i w j → (w.map (·.s)).Nodup ∨
    ∃ p q r m, w = p ++ (q ++ r) ∧ q ≠ [] ∧ r ≠ [] ∧ IsWalk l i p m ∧ IsWalk l m q m ∧ IsWalk l m r j
  | [], _, _, _ => .inl (by simp)
  | a :: w, i, j, ⟨h1, h2, h3⟩ => by
    by_cases hm : a.s ∈ w.map (·.s)
    · obtain ⟨b, hb, hbs⟩ := List.mem_map.1 hm
      obtain ⟨q1, r, rfl⟩ := List.append_of_mem hb
      obtain ⟨m, h4, h5⟩ := (walk_append q1 (b :: r) a.t j).1 h3
      have hmb : b.s = m := h5.2.1
      have hms : m = a.s := by rw [← hmb, hbs]
      subst hms
      subst h2
      exact .inr ⟨[], a :: q1, b :: r, a.s, by simp, by simp, by simp, rfl, ⟨h1, rfl, h4⟩, h5⟩
    · rcases walk_parts w a.t j h3 with h | ⟨p, q, r, m, rfl, hq, hr, h4, h5, h6⟩
      · exact .inl (by simpa using ⟨by simpa using hm, by simpa using h⟩)
      · exact .inr ⟨a :: p, q, r, m, by simp, hq, hr, ⟨h1, h2, h4⟩, h5, h6⟩
theorem walk_split {l : List Arc} {N : Nat} (hl : InN N l) {w : List Arc} {i j : Nat} (h : IsWalk l i w j) (hlen : N < w.length) :
    ∃ p q r m, w = p ++ (q ++ r) ∧ q ≠ [] ∧ r ≠ [] ∧ IsWalk l i p m ∧ IsWalk l m q m ∧ IsWalk l m r j := by
  rcases walk_parts w i j h with hn | h2
  · have hmem : ∀ (w : List Arc) (i j : Nat), IsWalk l i w j → ∀ a ∈ w, a ∈ l := by
      intro w
      induction w with
      | nil => intro _ _ _ a ha; cases ha
      | cons b w ih =>
        rintro i j ⟨h1, _, h3⟩ a ha
        rcases List.mem_cons.1 ha with rfl | ha
        · exact h1
        · exact ih _ _ h3 a ha
    have := nodup_le N _ hn (fun x hx => by
      obtain ⟨a, ha, rfl⟩ := List.mem_map.1 hx
      exact (hl a (hmem w i j h a ha)).1)
    rw [List.length_map] at this
    omega
  · exact h2

/-- A closed walk with a negative sum: one that is not long. -/
theorem neg_short {l : List Arc} {N : Nat} (hl : InN N l) : ∀ (k : Nat) (w : List Arc) (i : Nat), w.length ≤ k → IsWalk l i w i → wsum w < 0 → ∃ i w, IsWalk l i w i ∧ wsum w < 0 ∧ w.length ≤ N
  | 0, w, i, hk, h, hs => by
    have : w = [] := List.eq_nil_of_length_eq_zero (by omega)
    subst this
    simp [wsum] at hs
  | k + 1, w, i, hk, h, hs => by
    by_cases hlen : w.length ≤ N
    · exact ⟨i, w, h, hs, hlen⟩
    · obtain ⟨p, q, r, m, rfl, hq, hr, h4, h5, h6⟩ := walk_split hl h (by omega)
      have hql : 0 < q.length := List.length_pos_iff.2 hq
      have hrl : 0 < r.length := List.length_pos_iff.2 hr
      simp only [List.length_append] at hk
      by_cases hneg : wsum q < 0
      · exact neg_short hl k q m (by omega) h5 hneg
      · refine neg_short hl k (p ++ r) i (by rw [List.length_append]; omega) ((walk_append p r i i).2 ⟨m, h4, h6⟩) ?_
        rw [wsum_append] at hs ⊢
        rw [wsum_append] at hs
        omega
/-- Where no closed walk is negative, a walk that is no more and not long. -/
theorem walk_short {l : List Arc} {N : Nat} (hl : InN N l) (hn : ∀ i w, IsWalk l i w i → 0 ≤ wsum w) : ∀ (k : Nat) (w : List Arc) (i j : Nat), w.length ≤ k → IsWalk l i w j → ∃ w', IsWalk l i w' j ∧ wsum w' ≤ wsum w ∧ w'.length ≤ N
  | 0, w, i, j, hk, h => ⟨w, h, Int.le_refl _, by omega⟩
  | k + 1, w, i, j, hk, h => by
    by_cases hlen : w.length ≤ N
    · exact ⟨w, h, Int.le_refl _, hlen⟩
    · obtain ⟨p, q, r, m, rfl, hq, hr, h4, h5, h6⟩ := walk_split hl h (by omega)
      have hql : 0 < q.length := List.length_pos_iff.2 hq
      simp only [List.length_append] at hk
      obtain ⟨w', h7, h8, h9⟩ := walk_short hl hn k (p ++ r) i j (by rw [List.length_append]; omega) ((walk_append p r i j).2 ⟨m, h4, h6⟩)
      refine ⟨w', h7, ?_, h9⟩
      have := hn m q h5
      rw [wsum_append] at h8 ⊢
      rw [wsum_append]
      omega

/-- The least sum of a walk of at most k arcs, and of what its end begins with. -/
def best (l : List Arc) (init : Nat → Int) : Nat → Nat → Int
  | 0, i => init i
  | k + 1, i => l.foldl (fun m a => if a.s = i then min m (a.c + best l init k a.t) else m) (init i)

theorem fold_min_le {f : Arc → Int} {i : Nat} : ∀ (l : List Arc) (x : Int), l.foldl (fun m a => if a.s = i then min m (f a) else m) x ≤ x ∧ ∀ a ∈ l, a.s = i → l.foldl (fun m a => if a.s = i then min m (f a) else m) x ≤ f a
  | [], x => ⟨by simp, fun a ha => by cases ha⟩
  | b :: l, x => by
    have h := fold_min_le (f := f) (i := i) l (if b.s = i then min x (f b) else x)
    simp only [List.foldl_cons]
    refine ⟨?_, fun a ha hs => ?_⟩
    · have := h.1
      split at this <;> split <;> omega
    · rcases List.mem_cons.1 ha with rfl | ha
      · have := h.1
        rw [if_pos hs] at this ⊢
        omega
      · exact h.2 a ha hs
theorem fold_min_eq {f : Arc → Int} {i : Nat} : ∀ (l : List Arc) (x : Int), l.foldl (fun m a => if a.s = i then min m (f a) else m) x = x ∨ ∃ a ∈ l, a.s = i ∧ l.foldl (fun m a => if a.s = i then min m (f a) else m) x = f a
  | [], x => .inl rfl
  | b :: l, x => by
    simp only [List.foldl_cons]
    rcases fold_min_eq (f := f) (i := i) l (if b.s = i then min x (f b) else x) with h | ⟨a, ha, hs, h⟩
    · rw [h]
      split
      · rename_i hb
        by_cases hx : x ≤ f b
        · exact .inl (by omega)
        · exact .inr ⟨b, by simp, hb, by omega⟩
      · exact .inl rfl
    · exact .inr ⟨a, by simp [ha], hs, h⟩

theorem best_le {l : List Arc} {init : Nat → Int} : ∀ (k : Nat) (w : List Arc) (i j : Nat), IsWalk l i w j → w.length ≤ k → best l init k i ≤ wsum w + init j
  | 0, w, i, j, h, hk => by
    have : w = [] := List.eq_nil_of_length_eq_zero (by omega)
    subst this
    cases h
    simp [best, wsum]
  | k + 1, [], i, j, h, _ => by
    cases h
    have := (fold_min_le (f := fun a => a.c + best l init k a.t) (i := i) l (init i)).1
    simpa [best, wsum] using this
  | k + 1, a :: w, i, j, ⟨h1, h2, h3⟩, hk => by
    have h4 := (fold_min_le (f := fun a => a.c + best l init k a.t) (i := i) l (init i)).2 a h1 h2
    have h5 := best_le (init := init) k w a.t j h3 (by simpa using hk)
    simp only [best, wsum]
    omega
theorem best_eq {l : List Arc} {init : Nat → Int} : ∀ (k i : Nat), ∃ w j, IsWalk l i w j ∧ w.length ≤ k ∧ best l init k i = wsum w + init j
  | 0, i => ⟨[], i, rfl, by simp, by simp [best, wsum]⟩
  | k + 1, i => by
    rcases fold_min_eq (f := fun a => a.c + best l init k a.t) (i := i) l (init i) with h | ⟨a, ha, hs, h⟩
    · exact ⟨[], i, rfl, by simp, by simpa [best, wsum] using h⟩
    · obtain ⟨w, j, h1, h2, h3⟩ := best_eq (l := l) (init := init) k a.t
      refine ⟨a :: w, j, ⟨ha, hs, h1⟩, by simpa using h2, ?_⟩
      simp only [best, wsum]
      rw [h, h3]
      omega
theorem feas_closed {l : List Arc} (h : Feas l) : ∀ i w, IsWalk l i w i → 0 ≤ wsum w := by
  obtain ⟨v, hv⟩ := h
  intro i w hw
  have := walk_sat hv w i i hw
  omega
theorem best_sat {l : List Arc} {N : Nat} (hl : InN N l) (hn : ∀ i w, IsWalk l i w i → 0 ≤ wsum w) (init : Nat → Int) : Sat (best l init N) l := by
  intro a ha
  obtain ⟨w, j, h1, h2, h3⟩ := best_eq (l := l) (init := init) N a.t
  obtain ⟨w', h4, h5, h6⟩ := walk_short hl hn (N + 1) (a :: w) a.s j (by simpa using h2) ⟨ha, rfl, h1⟩
  have h7 := best_le (init := init) N w' a.s j h4 h6
  simp only [wsum] at h5
  omega
/-- A system without a solution has a short closed walk with a negative sum. -/
theorem infeas_neg {l : List Arc} {N : Nat} (hl : InN N l) (h : ¬ Feas l) : ∃ i w, IsWalk l i w i ∧ wsum w < 0 ∧ w.length ≤ N := by
  apply Classical.byContradiction
  intro hno
  refine h ⟨_, best_sat hl (fun i w hw => ?_) (fun _ => 0)⟩
  apply Classical.byContradiction
  intro hneg
  exact hno (neg_short hl w.length w i (Nat.le_refl _) hw (by omega))
/-- A solution that is at most 0 is at most the best one. -/
theorem best_max {l : List Arc} {v : Nat → Int} (hv : Sat v l) (h0 : ∀ i, v i ≤ 0) (k i : Nat) : v i ≤ best l (fun _ => 0) k i := by
  obtain ⟨w, j, h1, _, h3⟩ := best_eq (l := l) (init := fun _ => 0) k i
  have := walk_sat hv w i j h1
  have := h0 j
  omega
theorem best_le0 {l : List Arc} (k i : Nat) : best l (fun _ => 0) k i ≤ 0 := by
  have := best_le (l := l) (init := fun _ => 0) k [] i i rfl (by simp)
  simpa [wsum] using this

/-! ### The rounds -/
def upd (d : Nat → Int) (i : Nat) (x : Int) : Nat → Int := fun j => if j = i then x else d j
def relax (d : Nat → Int) (a : Arc) : Nat → Int := if d a.t + a.c < d a.s then upd d a.s (d a.t + a.c) else d
def pass (d : Nat → Int) (l : List Arc) : Nat → Int := l.foldl relax d
def stays (d : Nat → Int) (l : List Arc) : Prop := ∀ a ∈ l, ¬ (d a.t + a.c < d a.s)

theorem relax_le (d : Nat → Int) (a : Arc) (i : Nat) : relax d a i ≤ d i := by
  unfold relax upd
  split
  · simp only
    split
    · rename_i h e; rw [e]; omega
    · exact Int.le_refl _
  · exact Int.le_refl _
theorem relax_at (d : Nat → Int) (a : Arc) : relax d a a.s ≤ d a.t + a.c := by
  unfold relax upd
  split
  · simp
  · omega
theorem pass_le : ∀ (l : List Arc) (d : Nat → Int) (i : Nat), pass d l i ≤ d i
  | [], _, _ => Int.le_refl _
  | a :: l, d, i => Int.le_trans (pass_le l (relax d a) i) (relax_le d a i)
theorem pass_at : ∀ (l : List Arc) (d : Nat → Int) (a : Arc), a ∈ l → pass d l a.s ≤ d a.t + a.c
  | b :: l, d, a, ha => by
    rcases List.mem_cons.1 ha with rfl | ha
    · exact Int.le_trans (pass_le l _ _) (relax_at d a)
    · have := pass_at l (relax d b) a ha
      have := relax_le d b a.t
      show pass (relax d b) l a.s ≤ _
      omega
theorem relax_ge {d v : Nat → Int} {l : List Arc} (hv : Sat v l) (h : ∀ i, v i ≤ d i) {a : Arc} (ha : a ∈ l) : ∀ i, v i ≤ relax d a i := by
  intro i
  unfold relax upd
  split
  · simp only
    split
    · rename_i e
      subst e
      have := hv a ha
      have := h a.t
      omega
    · exact h i
  · exact h i
theorem pass_ge {v : Nat → Int} {l : List Arc} (hv : Sat v l) : ∀ (m : List Arc) (d : Nat → Int), (∀ a ∈ m, a ∈ l) → (∀ i, v i ≤ d i) → ∀ i, v i ≤ pass d m i
  | [], d, _, h => h
  | a :: m, d, hm, h => pass_ge hv m (relax d a) (fun b hb => hm b (by simp [hb])) (relax_ge hv h (hm a (by simp)))
theorem pass_stays : ∀ (l : List Arc) (d : Nat → Int), stays d l → pass d l = d
  | [], _, _ => rfl
  | a :: l, d, h => by
    have h1 : relax d a = d := by unfold relax; rw [if_neg (h a (by simp))]
    show pass (relax d a) l = d
    rw [h1]
    exact pass_stays l d (fun b hb => h b (by simp [hb]))
theorem stays_sat {d : Nat → Int} {l : List Arc} (h : stays d l) : Sat d l := fun a ha => by have := h a ha; omega
theorem sat_stays {d : Nat → Int} {l : List Arc} (h : Sat d l) : stays d l := fun a ha => by have := h a ha; omega
def rounds (l : List Arc) : Nat → Nat → Int
  | 0 => fun _ => 0
  | k + 1 => pass (rounds l k) l
theorem rounds_le {l : List Arc} : ∀ (k i : Nat), rounds l k i ≤ best l (fun _ => 0) k i
  | 0, i => by simp [rounds, best]
  | k + 1, i => by
    have h0 : rounds l (k + 1) i ≤ 0 := by
      have : ∀ k i, rounds l k i ≤ 0 := by
        intro k
        induction k with
        | zero => intro i; simp [rounds]
        | succ k ih => intro i; exact Int.le_trans (pass_le l _ i) (ih i)
      exact this (k + 1) i
    rcases fold_min_eq (f := fun a => a.c + best l (fun _ => 0) k a.t) (i := i) l 0 with h | ⟨a, ha, hs, h⟩
    · simp only [best]
      rw [h]
      exact h0
    · simp only [best]
      rw [h]
      have h1 := pass_at l (rounds l k) a ha
      rw [hs] at h1
      have := rounds_le (l := l) k a.t
      show pass (rounds l k) l i ≤ _
      omega
theorem rounds_ge {l : List Arc} {v : Nat → Int} (hv : Sat v l) (h0 : ∀ i, v i ≤ 0) : ∀ (k i : Nat), v i ≤ rounds l k i
  | 0, i => h0 i
  | k + 1, i => pass_ge hv l (rounds l k) (fun _ h => h) (rounds_ge hv h0 k) i
/-- Behind as many rounds as there are places a system with a solution has its best one. -/
theorem rounds_best {l : List Arc} {N : Nat} (hl : InN N l) (h : Feas l) : rounds l N = best l (fun _ => 0) N := by
  funext i
  have h1 := rounds_le (l := l) N i
  have h2 := rounds_ge (best_sat hl (feas_closed h) (fun _ => 0)) (best_le0 N) N i
  omega
theorem rounds_stay {l : List Arc} {N : Nat} (hl : InN N l) (h : Feas l) : stays (rounds l N) l := by
  rw [rounds_best hl h]
  exact sat_stays (best_sat hl (feas_closed h) _)
/-- What stays is the best solution. -/
theorem stay_best {l : List Arc} {N k : Nat} (hl : InN N l) (h : stays (rounds l k) l) : rounds l k = best l (fun _ => 0) N := by
  have hf : Feas l := ⟨_, stays_sat h⟩
  funext i
  have h0 : ∀ i, rounds l k i ≤ 0 := by
    intro i
    exact Int.le_trans (rounds_le k i) (best_le0 k i)
  have h1 := best_max (stays_sat h) h0 N i
  have h2 := rounds_ge (best_sat hl (feas_closed hf) (fun _ => 0)) (best_le0 N) k i
  omega
end Go.Proofs.Yteebkkdbkkibmaa.Bf
