/- The law DifferenceSolve over the printed functions: it comes to true (the texts Ps, Pw and parts of Pf and Pt in one). Conditions: none. -/
import Derived.Test.YteebkkdbkkibmaaQ15
import Derived.Test.YteebkkdbkkibmaaPeA
namespace Go.Proofs.Yteebkkdbkkibmaa.Pure
open Go.RowKit Go.Proofs.Yteebkkdbkkibmaa.Pr Go.Proofs.YteebkkdbkkibmaaW.PrintWords Go.Proofs.YteebkkdbkkibmaaW.PrintLast Go.Proofs.YteebkkdbkkibmaaW.PrintMore Go.Proofs.Yteebkkdbkkibmaa.Bf
set_option linter.unusedVariables false


theorem awake_some : Ev (fun q => (scarfjointlaw03_awake.f q).bind fun t => some t) true := Ev.bind awake_ev (Ev.now true)
theorem clone_test {l : List S26} (hl : l.length ≤ 45) : api_Test_14.f l = some l := by
  unfold api_Test_14.f
  simp only [Option.bind_some, List.length_nil, List.nil_append]
  rw [if_pos (by omega)]

/-! ### The program's Solve -/

theorem solve_loop {M : Nat} (hM : M ≤ 12) (D : Nat → Int) (hD : ∀ i, -100000000 ≤ D i ∧ D i ≤ 100000000) : ∀ (m i : Nat), i + m = M →
    Ev (fun q => difference_Solve.l0 q (tab (M + 1) D) (tab i (fun j => D (j + 1) - D 0)) (tab M (fun j => D (j + 1))) (M : Int) (i : Int)) (tab M (fun j => D (j + 1) - D 0), 0)
  | 0, i, hi => by
    obtain rfl : i = M := by omega
    refine Ev.step (f := fun _ => some (tab i (fun j => D (j + 1) - D 0), 0)) (fun q => ?_) (Ev.now _)
    rw [difference_Solve.l0, if_neg (by omega)]
  | m + 1, i, hi => by
    have ih := solve_loop hM D hD m (i + 1) (by omega)
    rw [← tab_snoc i] at ih
    have hw : wrap64 ((i : Int) + 1) = ((i + 1 : Nat) : Int) := by rw [w64 (by omega)]; omega
    have h1 := hD (i + 1)
    have h0 := hD 0
    have hws : wrap64 (D (i + 1) - D 0) = D (i + 1) - D 0 := w64 (by omega)
    have hin : (i : Int).toNat = i := by omega
    refine Ev.step (fun q => ?_) ih
    rw [difference_Solve.l0, tab_len, tab_len, tab_len, if_pos (by omega), if_pos (by omega), if_pos (by omega), if_pos (by omega), if_pos (by omega), tab_rd (by omega) (by omega), tab_rd (by omega) (by omega), hin, hw]
    simp only [Int.toNat_zero]
    rw [hws]
theorem tab_drop (M : Nat) (D : Nat → Int) : (tab (M + 1) D).drop 1 = tab M (fun j => D (j + 1)) := by
  apply List.ext_getElem
  · simp [tab]
  · intro i h1 h2
    simp [tab]
theorem best_bound {l : List Arc} (hs : small l) (k : Nat) (hk : k ≤ 20) (i : Nat) : -100000000 ≤ best l (fun _ => 0) k i ∧ best l (fun _ => 0) k i ≤ 100000000 := by
  obtain ⟨w, j, hw, hlen, he⟩ := best_eq (l := l) (init := fun _ => 0) k i
  have := wsum_small hs w i j hw
  omega
/-- The standard solution. -/
def solL (A : List Arc) (M : Nat) : List Int := tab M (fun j => best A (fun _ => 0) (M + 1) (j + 1) - best A (fun _ => 0) (M + 1) 0)
open Classical in
/-- The answer of Solve. -/
noncomputable def solR (n : Int) (l : List S26) : List Int × Int := if errV n l = 0 then (if Feas ((arcsF 0 l).map toA) then (solL ((arcsF 0 l).map toA) n.toNat, 0) else ([], 10)) else ([], errV n l)
theorem solve_ev (n : Int) (l : List S26) : Ev (fun q => difference_Solve.f q n l) (solR n l) := by
  unfold difference_Solve.f solR
  refine Ev.bind (valid_ev n l) ?_
  by_cases h : errV n l = 0
  · rw [if_pos h]
    refine Ev.ite_pos h ?_
    obtain ⟨h0, h12, h40, hv⟩ := errV_zero h
    have hgA := arcsF_good h0 h12 l 0 hv
    have hl := arcsF_len 0 l
    refine Ev.bind (arcs_ev l (by omega)) ?_
    by_cases hf : Feas ((arcsF 0 l).map toA)
    · rw [if_pos hf]
      refine Ev.bind (dist_ev h0 h12 hgA (by omega) (R := (_, true)) ⟨fun _ => rfl, fun hnf => absurd hf hnf⟩) ?_
      refine Ev.ite_pos rfl (Ev.ite_pos (by rw [tab_len]; omega) ?_)
      refine Ev.some_bind ?_
      simp only
      rw [tab_drop, tab_len]
      exact solve_loop (by omega) _ (best_bound (good_small hgA) _ (by omega)) n.toNat 0 (by omega)
    · rw [if_neg hf]
      refine Ev.bind (dist_ev h0 h12 hgA (by omega) (R := ([], false)) ⟨fun h2 => absurd h2 hf, fun _ => rfl⟩) ?_
      exact Ev.ite_neg (by simp) (Ev.now _)
  · rw [if_neg h]
    exact Ev.ite_neg h (Ev.now _)

/-! ### Holds -/
theorem u64_mod (x : Int) : IntKind.u64.wrap x = x % 18446744073709551616 := by
  simp [IntKind.wrap, IntKind.signed, IntKind.bits]
theorem wide_eq {a b : Int} (ha : -1125899906842624 ≤ a ∧ a ≤ 1125899906842624) (hb : -1125899906842624 ≤ b ∧ b ≤ 1125899906842624) : difference_wide.f a b = some (if a + b < 0 then -1 else 0, (a + b) % 18446744073709551616) := by
  unfold difference_wide.f
  rw [u64_mod, u64_mod]
  have h1 : (a % 18446744073709551616 + b % 18446744073709551616) % 18446744073709551616 = (a + b) % 18446744073709551616 := by omega
  have w1 : wrap64 (a / 9223372036854775808 + b / 9223372036854775808) = a / 9223372036854775808 + b / 9223372036854775808 := w64 (by omega)
  have w2 : wrap64 ((a % 18446744073709551616 + b % 18446744073709551616) / 18446744073709551616) = (a % 18446744073709551616 + b % 18446744073709551616) / 18446744073709551616 := w64 (by omega)
  have w3 : wrap64 (a / 9223372036854775808 + b / 9223372036854775808 + (a % 18446744073709551616 + b % 18446744073709551616) / 18446744073709551616) = a / 9223372036854775808 + b / 9223372036854775808 + (a % 18446744073709551616 + b % 18446744073709551616) / 18446744073709551616 := w64 (by omega)
  rw [w1, w2, w3, h1]
  congr 2
  split <;> omega
/-- The value of a variable, or 0. -/
def var0 (v : List Int) (i : Int) : Int := if i = -1 then 0 else rd v i
theorem holds1_eq {v : List Int} (hv : ∀ i : Int, -1099511627776 ≤ rd v i ∧ rd v i ≤ 1099511627776) {i a : Int} (ha : -1099511627776 ≤ a ∧ a ≤ 1099511627776) (hi : -1 ≤ i ∧ i < v.length) : difference_Holds_1.f i a v = some (if var0 v i + a < 0 then -1 else 0, (var0 v i + a) % 18446744073709551616, true) := by
  unfold difference_Holds_1.f var0
  by_cases h : i = -1
  · rw [if_pos h, if_pos h, wide_eq (by omega) (by omega)]
    rfl
  · have := hv i
    rw [if_neg h, if_neg h, if_neg (by omega), if_neg (by omega), if_pos (by omega), if_pos (by omega), wide_eq (by omega) (by omega)]
    rfl
theorem comp_eq (a b : Int) : cmp_Compare_int.f a b = some (if a < b then -1 else if a > b then 1 else 0) := by
  unfold cmp_Compare_int.f cmp_isNaN_int.f
  simp
  split <;> (try split) <;> rfl
theorem compu_eq (a b : Int) : cmp_Compare_uint64.f a b = some (if a < b then -1 else if a > b then 1 else 0) := by
  unfold cmp_Compare_uint64.f cmp_isNaN_uint64.f
  simp
  split <;> (try split) <;> rfl
theorem or_ev (x y : Int) : Ev (fun q => cmp_Or_int.f q [x, y]) (if x = 0 then y else x) := by
  have w0 : wrap64 (0 + 1) = 1 := w64 (by omega)
  have w1 : wrap64 (1 + 1) = 2 := w64 (by omega)
  have r0 : rd [x, y] 0 = x := rfl
  have r1 : rd [x, y] 1 = y := rfl
  unfold cmp_Or_int.f
  have hl : (([x, y] : List Int).length : Int) = 2 := rfl
  rw [hl]
  by_cases hx : x = 0
  · rw [if_pos hx]
    by_cases hy : y = 0
    · refine Ev.step (f := fun q => cmp_Or_int.l0 q 0 [x, y] 2 1) (fun q => ?_) (Ev.step (f := fun q => cmp_Or_int.l0 q 0 [x, y] 2 2) (fun q => ?_) (Ev.step (f := fun _ => some y) (fun q => ?_) (Ev.now _)))
      · rw [cmp_Or_int.l0, if_pos (by omega), if_pos (by omega), hl, if_pos (by omega), r0, if_pos hx, w0]
      · rw [cmp_Or_int.l0, if_pos (by omega), if_pos (by omega), hl, if_pos (by omega), r1, if_pos hy, w1]
      · rw [cmp_Or_int.l0, if_neg (by omega), hy]
    · refine Ev.step (f := fun q => cmp_Or_int.l0 q 0 [x, y] 2 1) (fun q => ?_) (Ev.step (f := fun _ => some y) (fun q => ?_) (Ev.now _))
      · rw [cmp_Or_int.l0, if_pos (by omega), if_pos (by omega), hl, if_pos (by omega), r0, if_pos hx, w0]
      · rw [cmp_Or_int.l0, if_pos (by omega), if_pos (by omega), hl, if_pos (by omega), r1, if_neg hy]
  · rw [if_neg hx]
    refine Ev.step (f := fun _ => some x) (fun q => ?_) (Ev.now _)
    rw [cmp_Or_int.l0, if_pos (by omega), if_pos (by omega), hl, if_pos (by omega), r0, if_neg hx]
/-- Does the test hold of the values? -/
def holdsP (v : List Int) (x : S26) : Prop := (x.f0 = 1 ∧ var0 v x.f1.f0 + x.f1.f1 ≤ var0 v x.f2.f0 + x.f2.f1) ∨ (x.f0 = 2 ∧ var0 v x.f1.f0 + x.f1.f1 = var0 v x.f2.f0 + x.f2.f1)
theorem var0_small {v : List Int} (hv : ∀ i : Int, -1099511627776 ≤ rd v i ∧ rd v i ≤ 1099511627776) (i : Int) : -1099511627776 ≤ var0 v i ∧ var0 v i ≤ 1099511627776 := by
  unfold var0
  split
  · omega
  · exact hv i
theorem holds_ev {v : List Int} (hv : ∀ i : Int, -1099511627776 ≤ rd v i ∧ rd v i ≤ 1099511627776) {x : S26} (h1 : -1 ≤ x.f1.f0 ∧ x.f1.f0 < v.length) (h2 : -1 ≤ x.f2.f0 ∧ x.f2.f0 < v.length) (h3 : -1099511627776 ≤ x.f1.f1 ∧ x.f1.f1 ≤ 1099511627776) (h4 : -1099511627776 ≤ x.f2.f1 ∧ x.f2.f1 ≤ 1099511627776)
    {b : Bool} (hb : b = true ↔ holdsP v x) : Ev (fun q => difference_Holds.f q x.f0 x.f1.f0 x.f1.f1 x.f2.f0 x.f2.f1 v) b := by
  have hA := var0_small hv x.f1.f0
  have hB := var0_small hv x.f2.f0
  unfold difference_Holds.f
  refine Ev.const_bind (holds1_eq hv h3 h1) ?_
  refine Ev.const_bind (holds1_eq hv h4 h2) ?_
  refine Ev.ite_pos rfl ?_
  unfold holdsP at hb
  have hAB : ∃ A B : Int, A = var0 v x.f1.f0 + x.f1.f1 ∧ B = var0 v x.f2.f0 + x.f2.f1 := ⟨_, _, rfl, rfl⟩
  obtain ⟨A, B, eA, eB⟩ := hAB
  simp only [← eA, ← eB] at hb ⊢
  have kA : -4398046511104 ≤ A ∧ A ≤ 4398046511104 := by omega
  have kB : -4398046511104 ≤ B ∧ B ≤ 4398046511104 := by omega
  clear eA eB hA hB h1 h2 h3 h4 hv
  obtain ⟨c, hc⟩ : ∃ c : Int, c = if (if A < 0 then (-1 : Int) else 0) < (if B < 0 then (-1 : Int) else 0) then -1 else if (if A < 0 then (-1 : Int) else 0) > (if B < 0 then (-1 : Int) else 0) then 1 else 0 := ⟨_, rfl⟩
  obtain ⟨d, hd⟩ : ∃ d : Int, d = if A % 18446744073709551616 < B % 18446744073709551616 then -1 else if A % 18446744073709551616 > B % 18446744073709551616 then 1 else 0 := ⟨_, rfl⟩
  obtain ⟨o, ho⟩ : ∃ o : Int, o = if c = 0 then d else c := ⟨_, rfl⟩
  have hcv : (A < 0 ∧ 0 ≤ B ∧ c = -1) ∨ (0 ≤ A ∧ B < 0 ∧ c = 1) ∨ (c = 0 ∧ A < 0 ∧ B < 0) ∨ (c = 0 ∧ 0 ≤ A ∧ 0 ≤ B) := by
    by_cases a1 : A < 0 <;> by_cases b1 : B < 0 <;> simp [a1, b1] at hc <;> omega
  have hdv : (A % 18446744073709551616 < B % 18446744073709551616 ∧ d = -1) ∨ (A % 18446744073709551616 > B % 18446744073709551616 ∧ d = 1) ∨ (A % 18446744073709551616 = B % 18446744073709551616 ∧ d = 0) := by
    rw [hd]
    split
    · exact .inl ⟨by assumption, rfl⟩
    · split
      · exact .inr (.inl ⟨by assumption, rfl⟩)
      · exact .inr (.inr ⟨by omega, rfl⟩)
  have hov : (c = 0 ∧ o = d) ∨ (c ≠ 0 ∧ o = c) := by
    rw [ho]
    split
    · exact .inl ⟨by assumption, rfl⟩
    · exact .inr ⟨by assumption, rfl⟩
  have h1 : o ≤ 0 ↔ A ≤ B := by omega
  have h2 : o = 0 ↔ A = B := by omega
  refine Ev.step (f := fun q => (cmp_Or_int.f q [c, d]).bind fun t585 => (if x.f0 = 1 then (if t585 ≤ 0 then (some true) else (if x.f0 = 2 then (some (t585 == 0)) else (some false))) else (if x.f0 = 2 then (some (t585 == 0)) else (some false)))) (fun q => ?_) ?_
  · rw [difference_Holds.j0, if_neg (by simp), comp_eq, compu_eq, hc, hd]
    rfl
  · have hor := or_ev c d
    rw [← ho] at hor
    refine Ev.bind hor ?_
    have fin : ∀ b' : Bool, (b' = true ↔ ((x.f0 = 1 ∧ A ≤ B) ∨ (x.f0 = 2 ∧ A = B))) → Ev (fun _ => some b') b := fun b' hb' => by
      have : b' = b := Bool.eq_iff_iff.2 (hb'.trans hb.symm)
      rw [this]; exact Ev.now b
    by_cases k1 : x.f0 = 1
    · refine Ev.ite_pos k1 ?_
      by_cases ho1 : o ≤ 0
      · exact Ev.ite_pos ho1 (fin true ⟨fun _ => .inl ⟨k1, h1.1 ho1⟩, fun _ => rfl⟩)
      · exact Ev.ite_neg ho1 (Ev.ite_neg (by omega) (fin false ⟨fun h => (by cases h), fun h => by omega⟩))
    · refine Ev.ite_neg k1 ?_
      by_cases k2 : x.f0 = 2
      · exact Ev.ite_pos k2 (fin (o == 0) ⟨fun h => .inr ⟨k2, h2.1 (by simpa using h)⟩, fun h => by
          have : o = 0 := by omega
          simp [this]⟩)
      · exact Ev.ite_neg k2 (fin false ⟨fun h => (by cases h), fun h => by omega⟩)

/-! ### Values as a solution -/
/-- The values, as values of places. -/
def pl (v : List Int) (i : Nat) : Int := var0 v ((i : Int) - 1)
theorem pl_eq (v : List Int) {i : Int} (h : -1 ≤ i) : pl v (i + 1).toNat = var0 v i := by
  unfold pl
  have : (((i + 1).toNat : Nat) : Int) - 1 = i := by omega
  rw [this]
/-- A right test has small numbers and places. -/
theorem err_parts {n : Int} {x : S26} (h : errOf n x = 0) : (x.f0 = 1 ∨ x.f0 = 2) ∧ (-1 ≤ x.f1.f0 ∧ x.f1.f0 < n) ∧ (-1 ≤ x.f2.f0 ∧ x.f2.f0 < n) ∧ (-1000000 ≤ x.f1.f1 ∧ x.f1.f1 ≤ 1000000) ∧ (-1000000 ≤ x.f2.f1 ∧ x.f2.f1 ≤ 1000000) := by
  unfold errOf errOne at h
  split at h
  · omega
  · split at h
    · rename_i hk ht
      obtain ⟨h1, h2⟩ := ht
      simp only [termOk, Bool.and_eq_true, decide_eq_true_eq] at h1 h2
      omega
    · omega
theorem sat_iff {n : Int} (hn : n ≤ 12) (v : List Int) {x : S26} (h : errOf n x = 0) (i : Int) : (∀ a ∈ arcsX i x, pl v (toA a).s ≤ pl v (toA a).t + (toA a).c) ↔ holdsP v x := by
  obtain ⟨hk, h1, h2, h3, h4⟩ := err_parts h
  have w1 : wrap64 (x.f1.f0 + 1) = x.f1.f0 + 1 := w64 (by omega)
  have w2 : wrap64 (x.f2.f0 + 1) = x.f2.f0 + 1 := w64 (by omega)
  have w3 : wrap64 (x.f2.f1 - x.f1.f1) = x.f2.f1 - x.f1.f1 := w64 (by omega)
  have w4 : wrap64 (-(x.f2.f1 - x.f1.f1)) = -(x.f2.f1 - x.f1.f1) := w64 (by omega)
  have e1 := pl_eq v h1.1
  have e2 := pl_eq v h2.1
  have a1 : (pl v (toA (arc1 i x)).s ≤ pl v (toA (arc1 i x)).t + (toA (arc1 i x)).c) ↔ var0 v x.f1.f0 + x.f1.f1 ≤ var0 v x.f2.f0 + x.f2.f1 := by
    unfold toA arc1
    simp only
    rw [w1, w2, w3, e1, e2]
    omega
  have a2 : (pl v (toA (arc2 i x)).s ≤ pl v (toA (arc2 i x)).t + (toA (arc2 i x)).c) ↔ var0 v x.f2.f0 + x.f2.f1 ≤ var0 v x.f1.f0 + x.f1.f1 := by
    unfold toA arc2
    simp only
    rw [w1, w2, w3, w4, e1, e2]
    omega
  unfold arcsX holdsP
  by_cases k2 : x.f0 = 2
  · rw [if_pos k2]
    constructor
    · intro h9
      have b1 := a1.1 (h9 (arc1 i x) (by simp))
      have b2 := a2.1 (h9 (arc2 i x) (by simp))
      exact .inr ⟨k2, by omega⟩
    · intro h9 a ha
      have hh : var0 v x.f1.f0 + x.f1.f1 = var0 v x.f2.f0 + x.f2.f1 := by omega
      rcases List.mem_cons.1 ha with rfl | ha
      · exact a1.2 (by omega)
      · rw [List.mem_singleton.1 ha]; exact a2.2 (by omega)
  · rw [if_neg k2]
    constructor
    · intro h9
      exact .inl ⟨by omega, a1.1 (h9 (arc1 i x) (by simp))⟩
    · intro h9 a ha
      rw [List.mem_singleton.1 ha]
      exact a1.2 (by omega)

/-! ### The reference's Solve -/
/-- The least of 0 and the first entries of a row. -/
def rmin (B : Nat → Int) : Nat → Int
  | 0 => 0
  | k + 1 => min (rmin B k) (B k)
theorem rmin_le (B : Nat → Int) : ∀ (m j : Nat), j < m → rmin B m ≤ B j
  | m + 1, j, h => by
    unfold rmin
    by_cases hj : j = m
    · subst hj; omega
    · have := rmin_le B m j (by omega); omega
theorem rmin_eq (B : Nat → Int) : ∀ (m : Nat), rmin B m = 0 ∨ ∃ j, j < m ∧ rmin B m = B j
  | 0 => .inl rfl
  | m + 1 => by
    have hd : rmin B (m + 1) = min (rmin B m) (B m) := rfl
    by_cases h : B m < rmin B m
    · exact .inr ⟨m, by omega, by omega⟩
    · rcases rmin_eq B m with h0 | ⟨j, hj, h0⟩
      · exact .inl (by omega)
      · exact .inr ⟨j, by omega, by omega⟩
theorem rmin_best {l : List Arc} {N : Nat} (hs : small l) (hl : InN N l) (hf : Feas l) (hN : N ≤ 50) {i : Nat} (hi : i < N) : rmin (bestT l (N + 1) i) N = best l (fun _ => 0) N i := by
  have h1 : rmin (bestT l (N + 1) i) N ≤ best l (fun _ => 0) N i := by
    obtain ⟨w, j, hw, hlen, he⟩ := best_eq (l := l) (init := fun _ => 0) N i
    have hj : j < N := by
      by_cases h : w = []
      · subst h
        have : i = j := hw
        omega
      · exact (walk_lt hl w i j hw h).2
    have a := (best_spec hs (N + 1) (by omega) i j).2 w hw (by omega)
    have b := rmin_le (bestT l (N + 1) i) N j hj
    omega
  have h2 : best l (fun _ => 0) N i ≤ rmin (bestT l (N + 1) i) N := by
    have h0 := best_le0 (l := l) N i
    rcases rmin_eq (bestT l (N + 1) i) N with h | ⟨j, hj, h⟩
    · omega
    · rcases (best_spec hs (N + 1) (by omega) i j).1 with h3 | ⟨w, hw, hlen, h3⟩
      · rw [h, h3]; unfold far; omega
      · obtain ⟨w', h4, h5, h6⟩ := walk_short hl (feas_closed hf) (N + 1) w i j hlen hw
        have h7 := best_le (init := fun _ => 0) N w' i j h4 h6
        omega
  omega
theorem rs_l1 {N : Nat} (hN : N ≤ 13) (n : Int) (hn : n + 1 = N) (B : Nat → Nat → Int) (vals : List Int) (hv : vals.length ≤ 20) (i : Nat) (hi : i < N) {R : List Int × Int}
    (hR : Ev (fun q => scarfjointref03_Solve.l0 q n (tab2 N B) (vals ++ [rmin (B i) N]) ((i + 1 : Nat) : Int)) R) :
    ∀ (m k : Nat), k + m = N → Ev (fun q => scarfjointref03_Solve.l1 q n (tab2 N B) vals (i : Int) (rmin (B i) k) (k : Int)) R
  | 0, k, hk => by
    have hw : wrap64 ((i : Int) + 1) = ((i + 1 : Nat) : Int) := by rw [w64 (by omega)]; omega
    obtain rfl : k = N := by omega
    refine Ev.step (fun q => ?_) hR
    rw [scarfjointref03_Solve.l1, if_neg (by omega), if_pos (by omega), hw]
  | m + 1, k, hk => by
    have hw : wrap64 ((k : Int) + 1) = ((k + 1 : Nat) : Int) := by rw [w64 (by omega)]; omega
    have ih := rs_l1 hN n hn B vals hv i hi hR m (k + 1) (by omega)
    have hin : (i : Int).toNat = i := by omega
    have hkn : (k : Int).toNat = k := by omega
    have he : rmin (B i) (k + 1) = min (rmin (B i) k) (B i k) := rfl
    rw [he] at ih
    refine Ev.step (fun q => ?_) ih
    rw [scarfjointref03_Solve.l1, if_pos (by omega), if_pos (by omega), tab2_len, if_pos (by omega), if_pos (by omega), tab2_rd (by omega) (by omega), tab_len, if_pos (by omega), tab_rd (by omega) (by omega), hin, hkn, mn_min, hw]
theorem rs_l2 {M : Nat} (hM : M ≤ 12) (D : Nat → Int) (hD : ∀ i, -100000000 ≤ D i ∧ D i ≤ 100000000) : ∀ (m i : Nat), i + m = M →
    Ev (fun q => scarfjointref03_Solve.l2 q (M : Int) (tab (M + 1) D) (tab i (fun j => D (j + 1) - D 0)) ((i + 1 : Nat) : Int)) (tab M (fun j => D (j + 1) - D 0), 0)
  | 0, i, hi => by
    obtain rfl : i = M := by omega
    refine Ev.step (f := fun _ => some (tab i (fun j => D (j + 1) - D 0), 0)) (fun q => ?_) (Ev.now _)
    rw [scarfjointref03_Solve.l2, if_neg (by omega)]
  | m + 1, i, hi => by
    have ih := rs_l2 hM D hD m (i + 1) (by omega)
    rw [← tab_snoc i] at ih
    have hw : wrap64 (((i + 1 : Nat) : Int) + 1) = ((i + 1 + 1 : Nat) : Int) := by rw [w64 (by omega)]; omega
    have h1 := hD (i + 1)
    have h0 := hD 0
    have hws : wrap64 (D (i + 1) - D 0) = D (i + 1) - D 0 := w64 (by omega)
    have hin : ((i + 1 : Nat) : Int).toNat = i + 1 := by omega
    refine Ev.step (fun q => ?_) ih
    rw [scarfjointref03_Solve.l2, tab_len, tab_len, if_pos (by omega), if_pos (by omega), if_pos (by omega), if_pos (by omega), if_pos (by omega), tab_rd (by omega) (by omega), tab_rd (by omega) (by omega), hin, hw]
    simp only [Int.toNat_zero]
    rw [hws]
theorem rs_l0 {M : Nat} (hM : M ≤ 12) (B : Nat → Nat → Int) (D : Nat → Int) (hD : ∀ i, -100000000 ≤ D i ∧ D i ≤ 100000000) (hB : ∀ i, i < M + 1 → rmin (B i) (M + 1) = D i) : ∀ (m i : Nat), i + m = M + 1 →
    Ev (fun q => scarfjointref03_Solve.l0 q (M : Int) (tab2 (M + 1) B) (tab i D) (i : Int)) (tab M (fun j => D (j + 1) - D 0), 0)
  | 0, i, hi => by
    obtain rfl : i = M + 1 := by omega
    refine Ev.step (fun q => ?_) (rs_l2 hM D hD M 0 (by omega))
    rw [scarfjointref03_Solve.l0, if_neg (by omega)]
    rfl
  | m + 1, i, hi => by
    have ih := rs_l0 hM B D hD hB m (i + 1) (by omega)
    rw [← tab_snoc i, ← hB i (by omega)] at ih
    refine Ev.step (fun q => ?_) (rs_l1 (N := M + 1) (by omega) (M : Int) (by omega) B (tab i D) (by rw [tab_len]; omega) i (by omega) ih (M + 1) 0 (by omega))
    rw [scarfjointref03_Solve.l0, if_pos (by omega)]
    rfl
theorem Solve_ev (n : Int) (l : List S26) : Ev (fun q => scarfjointref03_Solve.f q n l) (solR n l) := by
  unfold scarfjointref03_Solve.f solR
  refine Ev.bind (Valid_ev n l) ?_
  by_cases h : errV n l = 0
  · rw [if_pos h]
    refine Ev.ite_pos h ?_
    obtain ⟨h0, h12, h40, hv⟩ := errV_zero h
    have hgA := arcsF_good h0 h12 l 0 hv
    by_cases hf : Feas ((arcsF 0 l).map toA)
    · rw [if_pos hf]
      refine Ev.bind (Dists_ev h0 h12 (L := l) (by omega) hgA (R := (_, true)) ⟨fun _ => rfl, fun h2 => absurd hf h2⟩) ?_
      refine Ev.ite_pos rfl ?_
      have hnn : n = (n.toNat : Int) := by omega
      have := rs_l0 (M := n.toNat) (by omega) (bestT ((arcsF 0 l).map toA) (n.toNat + 2)) (best ((arcsF 0 l).map toA) (fun _ => 0) (n.toNat + 1)) (best_bound (good_small hgA) _ (by omega))
        (fun i hi => rmin_best (N := n.toNat + 1) (good_small hgA) (good_inN hgA) hf (by omega) hi) (n.toNat + 1) 0 (by omega)
      rw [← hnn] at this
      exact this
    · rw [if_neg hf]
      refine Ev.bind (Dists_ev h0 h12 (L := l) (by omega) hgA (R := ([], false)) ⟨fun h2 => absurd h2 hf, fun _ => rfl⟩) ?_
      exact Ev.ite_neg (by simp) (Ev.now _)
  · rw [if_neg h]
    exact Ev.ite_neg h (Ev.now _)

/-! ### The standard solution satisfies the tests -/
theorem arcsX_sub : ∀ (l : List S26) (i : Nat) (x : S26), x ∈ l → ∃ k : Nat, ∀ a ∈ arcsX (k : Int) x, a ∈ arcsF i l
  | y :: l, i, x, h => by
    have e : arcsF i (y :: l) = arcsX (i : Int) y ++ arcsF (i + 1) l := rfl
    rcases List.mem_cons.1 h with rfl | h
    · exact ⟨i, fun a ha => by rw [e]; exact List.mem_append_left _ ha⟩
    · obtain ⟨k, hk⟩ := arcsX_sub l (i + 1) x h
      exact ⟨k, fun a ha => by rw [e]; exact List.mem_append_right _ (hk a ha)⟩
theorem solL_pl (A : List Arc) (M : Nat) {i : Nat} (hi : i < M + 1) : pl (solL A M) i = best A (fun _ => 0) (M + 1) i - best A (fun _ => 0) (M + 1) 0 := by
  unfold pl var0 solL
  rcases i with _ | i
  · rw [if_pos (by omega)]; omega
  · rw [if_neg (by omega), tab_rd (by omega) (by omega)]
    have : ((i + 1 : Nat) : Int) - 1 = (i : Int) := by omega
    rw [this]
    rfl
theorem sol_holds {n : Int} {l : List S26} (h : errV n l = 0) (hf : Feas ((arcsF 0 l).map toA)) {x : S26} (hx : x ∈ l) : holdsP (solL ((arcsF 0 l).map toA) n.toNat) x := by
  obtain ⟨h0, h12, h40, hv⟩ := errV_zero h
  have hgA := arcsF_good h0 h12 l 0 hv
  have hsat := best_sat (good_inN hgA) (feas_closed hf) (fun _ => 0)
  obtain ⟨k, hk⟩ := arcsX_sub l 0 x hx
  refine (sat_iff h12 _ (hv x hx) (k : Int)).1 fun a ha => ?_
  have hm : toA a ∈ (arcsF 0 l).map toA := List.mem_map_of_mem (hk a ha)
  have h1 := hsat _ hm
  have h2 := good_inN hgA _ hm
  rw [solL_pl _ _ h2.1, solL_pl _ _ h2.2]
  omega
theorem sol_small {n : Int} {l : List S26} (h : errV n l = 0) (i : Int) : -1099511627776 ≤ rd (solL ((arcsF 0 l).map toA) n.toNat) i ∧ rd (solL ((arcsF 0 l).map toA) n.toNat) i ≤ 1099511627776 := by
  obtain ⟨h0, h12, h40, hv⟩ := errV_zero h
  have hgA := arcsF_good h0 h12 l 0 hv
  have hb := best_bound (good_small hgA) (n.toNat + 1) (by omega)
  have key : ∀ y ∈ solL ((arcsF 0 l).map toA) n.toNat, -1099511627776 ≤ y ∧ y ≤ 1099511627776 := fun y hy => by
    unfold solL tab at hy
    obtain ⟨j, _, rfl⟩ := List.mem_map.1 hy
    have := hb (j + 1)
    have := hb 0
    omega
  unfold rd
  rw [List.getD_eq_getElem?_getD]
  cases hv : (solL ((arcsF 0 l).map toA) n.toNat)[i.toNat]? with
  | none => simp
  | some y =>
    have := key y (List.mem_of_getElem? hv)
    simp only [Option.getD_some]
    omega
theorem sol_len (A : List Arc) (M : Nat) : (solL A M).length = M := tab_len _ _

/-! ### The rest of the law -/
theorem equal_loop (v : List Int) (hv : v.length ≤ 1000) : ∀ (m i : Nat), i + m = v.length → Ev (fun q => slices_Equal_int_int.l0 q v v (v.length : Int) (i : Int)) true
  | 0, i, hi => by
    refine Ev.step (f := fun _ => some true) (fun q => ?_) (Ev.now _)
    rw [slices_Equal_int_int.l0, if_neg (by omega)]
  | m + 1, i, hi => by
    have hw : wrap64 ((i : Int) + 1) = ((i + 1 : Nat) : Int) := by rw [w64 (by omega)]; omega
    refine Ev.step (fun q => ?_) (equal_loop v hv m (i + 1) (by omega))
    rw [slices_Equal_int_int.l0, if_pos (by omega), if_pos (by omega), if_pos (by omega), if_pos (by omega), if_pos rfl, hw]
theorem equal_ev (v : List Int) (hv : v.length ≤ 1000) : Ev (fun q => slices_Equal_int_int.f q v v) true := by
  unfold slices_Equal_int_int.f
  exact Ev.ite_pos rfl (equal_loop v hv v.length 0 (by omega))
theorem none_loop {n : Int} {l : List S26} (hl : l.length ≤ 45) {v : List Int} (hvl : (v.length : Int) = n) (hv : ∀ i : Int, -1099511627776 ≤ rd v i ∧ rd v i ≤ 1099511627776) (he : ∀ x ∈ l, errOf n x = 0) (hh : ∀ x ∈ l, holdsP v x) : ∀ (rest pre : List S26), l = pre ++ rest →
    Ev (fun q => api_Test_60.l0 q l v (l.length : Int) (pre.length : Int)) (-1)
  | [], pre, h => by
    have hpl : pre.length = l.length := by rw [h]; simp
    refine Ev.step (f := fun _ => some (-1)) (fun q => ?_) (Ev.now _)
    rw [api_Test_60.l0, if_neg (by omega)]
  | x :: rest, pre, h => by
    have hlen : pre.length < l.length := by rw [h]; simp
    have hw : wrap64 ((pre.length : Int) + 1) = ((pre ++ [x]).length : Int) := by rw [w64 (by omega)]; simp
    have hx : x ∈ l := by rw [h]; simp
    obtain ⟨hk, h1, h2, h3, h4⟩ := err_parts (he x hx)
    have ih := none_loop hl hvl hv he hh rest (pre ++ [x]) (by rw [h]; simp)
    refine Ev.step (f := fun q => (scarfjointlaw03_DifferenceSolve_1.f q x.f0 x.f1.f0 x.f1.f1 x.f2.f0 x.f2.f1 v).bind fun t636 => (if t636 = true then (some (pre.length : Int)) else (api_Test_60.l0 q l v (l.length : Int) ((pre ++ [x]).length : Int)))) (fun q => ?_) ?_
    · rw [api_Test_60.l0, if_pos (by omega), if_pos (by omega), if_pos (by omega), rdT26_at h, hw]
    · refine Ev.bind (r := -1) (a := false) ?_ (Ev.ite_neg (by simp) ih)
      unfold scarfjointlaw03_DifferenceSolve_1.f
      exact Ev.bind (holds_ev hv (x := x) (by omega) (by omega) (by omega) (by omega) (b := true) ⟨fun _ => hh x hx, fun _ => rfl⟩) (Ev.now _)
theorem solve_law (n : Int) (l : List S26) : Ev (fun q => scarfjointlaw03_DifferenceSolve.f q n l) true := by
  have hwake : Ev (fun q => scarfjointlaw03_DifferenceSolve.j0 q n l true) true := Ev.step (f := fun q => (scarfjointlaw03_awake.f q).bind fun t => some t) (fun q => by rw [scarfjointlaw03_DifferenceSolve.j0, if_pos rfl]) awake_some
  unfold scarfjointlaw03_DifferenceSolve.f
  refine Ev.bind awake_ev ?_
  refine Ev.ite_pos rfl ?_
  by_cases hr : (l.length : Int) > 45
  · rw [decide_eq_true hr]; exact hwake
  · rw [decide_eq_false hr]
    have hl : l.length ≤ 45 := by omega
    refine Ev.step (f := fun q => (api_Test_14.f l).bind fun t640 => ((difference_Solve.f q n t640).bind fun bt643 => ((scarfjointref03_Solve.f q n l).bind fun bt647 => ((api_Test_14.f l).bind fun t651 => ((difference_Valid.f q n t651).bind fun t654 => ((scarfjointref03_Valid.f q n l).bind fun t655 => (if t654 = t655 then ((slices_Equal_int_int.f q bt643.1 bt647.1).bind fun t656 => (if t656 = true then (if bt643.2 = bt647.2 then (if bt643.2 = 0 then ((api_Test_33.f q l bt643.1).bind fun t657 => (some (!t657))) else (some true)) else (some false)) else (some false))) else (some false)))))))) (fun q => ?_) ?_
    · rw [scarfjointlaw03_DifferenceSolve.j0, if_neg (by simp)]
    · refine Ev.const_bind (clone_test hl) ?_
      refine Ev.bind (solve_ev n l) ?_
      refine Ev.bind (Solve_ev n l) ?_
      refine Ev.const_bind (clone_test hl) ?_
      refine Ev.bind (valid_ev n l) ?_
      refine Ev.bind (Valid_ev n l) ?_
      refine Ev.ite_pos rfl ?_
      unfold solR
      by_cases h : errV n l = 0
      · rw [if_pos h]
        obtain ⟨h0, h12, h40, hv⟩ := errV_zero h
        by_cases hf : Feas ((arcsF 0 l).map toA)
        · rw [if_pos hf]
          refine Ev.bind (equal_ev _ (by rw [sol_len]; omega)) ?_
          refine Ev.ite_pos rfl (Ev.ite_pos rfl (Ev.ite_pos rfl ?_))
          have hc : Ev (fun q => api_Test_33.f q l (solL ((arcsF 0 l).map toA) n.toNat)) false := by
            unfold api_Test_33.f api_Test_60.f
            exact Ev.bind (none_loop hl (by rw [sol_len]; omega) (sol_small h) hv (fun x hx => sol_holds h hf hx) l [] rfl) (Ev.now _)
          exact Ev.bind hc (Ev.now _)
        · rw [if_neg hf]
          refine Ev.bind (equal_ev _ (by simp)) ?_
          exact Ev.ite_pos rfl (Ev.ite_pos rfl (Ev.ite_neg (by simp) (Ev.now _)))
      · rw [if_neg h]
        refine Ev.bind (equal_ev _ (by simp)) ?_
        exact Ev.ite_pos rfl (Ev.ite_pos rfl (Ev.ite_neg h (Ev.now _)))
end Go.Proofs.Yteebkkdbkkibmaa.Pure
