/- What made tests come to, and what the program's function Solve comes to: the standard solution, or the error. Conditions: none. -/
import Derived.Test.YteebkkdbkkibmaaPh
import Derived.Test.YteebkkdbkkibmaaQ1
namespace Go.Proofs.Yteebkkdbkkibmaa.Pure
open Go.RowKit Go.Proofs.Yteebkkdbkkibmaa.Pr Go.Proofs.YteebkkdbkkibmaaW.PrintWords Go.Proofs.YteebkkdbkkibmaaW.PrintLast Go.Proofs.YteebkkdbkkibmaaW.PrintMore Go.Proofs.Yteebkkdbkkibmaa.Bf
set_option linter.unusedVariables false

theorem solve_loop {M : Nat} (hM : M ≤ 12) (D : Nat → Int) (hD : ∀ i, -100000000 ≤ D i ∧ D i ≤ 100000000) : ∀ (m i : Nat), i + m = M →
    Ev (fun q => difference_Solve.l0 q (tab (M + 1) D) (tab i (fun j => D (j + 1) - D 0)) (tab M (fun j => D (j + 1))) (M : Int) (i : Int)) (tab M (fun j => D (j + 1) - D 0), 0)
  | 0, i, hi => by
    obtain rfl : i = M := by omega
    refine Ev.step (f := fun _ => some (tab i (fun j => D (j + 1) - D 0), 0)) (fun q => ?_) (Ev.now _)
    rw [difference_Solve.l0, if_neg (by omega)]
  | m + 1, i, hi => by
    have ih := solve_loop hM D hD m (i + 1) (by omega)
    rw [← tab_snoc i] at ih
    have hw : wrap64 ((i : Int) + 1) = ((i + 1 : Nat) : Int) := by rw [w64 (by omega)]; omega
    have h1 := hD (i + 1)
    have h0 := hD 0
    have hws : wrap64 (D (i + 1) - D 0) = D (i + 1) - D 0 := w64 (by omega)
    have hin : (i : Int).toNat = i := by omega
    refine Ev.step (fun q => ?_) ih
    rw [difference_Solve.l0, tab_len, tab_len, tab_len, if_pos (by omega), if_pos (by omega), if_pos (by omega), if_pos (by omega), if_pos (by omega), tab_rd (by omega) (by omega), tab_rd (by omega) (by omega), hin, hw]
    simp only [Int.toNat_zero]
    rw [hws]
theorem tab_drop (M : Nat) (D : Nat → Int) : (tab (M + 1) D).drop 1 = tab M (fun j => D (j + 1)) := by
  apply List.ext_getElem
  · simp [tab]
  · intro i h1 h2
    simp [tab]
theorem best_bound {l : List Arc} (hs : small l) (k : Nat) (hk : k ≤ 20) (i : Nat) : -100000000 ≤ best l (fun _ => 0) k i ∧ best l (fun _ => 0) k i ≤ 100000000 := by
  obtain ⟨w, j, hw, hlen, he⟩ := best_eq (l := l) (init := fun _ => 0) k i
  have := wsum_small hs w i j hw
  omega
/-- The standard solution. -/
def solL (A : List Arc) (M : Nat) : List Int := tab M (fun j => best A (fun _ => 0) (M + 1) (j + 1) - best A (fun _ => 0) (M + 1) 0)
open Classical in
/-- The answer of Solve. -/
noncomputable def solR (n : Int) (l : List S26) : List Int × Int := if errV n l = 0 then (if Feas ((arcsF 0 l).map toA) then (solL ((arcsF 0 l).map toA) n.toNat, 0) else ([], 10)) else ([], errV n l)
theorem solve_ev (n : Int) (l : List S26) : Ev (fun q => difference_Solve.f q n l) (solR n l) := by
  unfold difference_Solve.f solR
  refine Ev.bind (valid_ev n l) ?_
  by_cases h : errV n l = 0
  · rw [if_pos h]
    refine Ev.ite_pos h ?_
    obtain ⟨h0, h12, h40, hv⟩ := errV_zero h
    have hgA := arcsF_good h0 h12 l 0 hv
    have hl := arcsF_len 0 l
    refine Ev.bind (arcs_ev l (by omega)) ?_
    by_cases hf : Feas ((arcsF 0 l).map toA)
    · rw [if_pos hf]
      refine Ev.bind (dist_ev h0 h12 hgA (by omega) (R := (_, true)) ⟨fun _ => rfl, fun hnf => absurd hf hnf⟩) ?_
      refine Ev.ite_pos rfl (Ev.ite_pos (by rw [tab_len]; omega) ?_)
      refine Ev.some_bind ?_
      simp only
      rw [tab_drop, tab_len]
      exact solve_loop (by omega) _ (best_bound (good_small hgA) _ (by omega)) n.toNat 0 (by omega)
    · rw [if_neg hf]
      refine Ev.bind (dist_ev h0 h12 hgA (by omega) (R := ([], false)) ⟨fun h2 => absurd h2 hf, fun _ => rfl⟩) ?_
      exact Ev.ite_neg (by simp) (Ev.now _)
  · rw [if_neg h]
    exact Ev.ite_neg h (Ev.now _)
theorem arcsF_app : ∀ (l m : List S26) (i : Nat), arcsF i (l ++ m) = arcsF i l ++ arcsF (i + l.length) m
  | [], m, i => by simp [arcsF]
  | x :: l, m, i => by
    simp only [List.cons_append, arcsF, List.append_assoc, arcsF_app l m (i + 1), List.length_cons]
    rw [show i + 1 + l.length = i + (l.length + 1) by omega]
theorem errL_mk {n : Int} : ∀ {l : List S26}, (∀ x ∈ l, errOf n x = 0) → errL n l = 0
  | [], _ => rfl
  | x :: l, h => by unfold errL; rw [if_pos (h x (by simp))]; exact errL_mk (fun y hy => h y (by simp [hy]))
theorem errV_mk {n : Int} {l : List S26} (h0 : 0 ≤ n) (h12 : n ≤ 12) (hl : l.length ≤ 40) (h : ∀ x ∈ l, errOf n x = 0) : errV n l = 0 := by
  unfold errV; rw [if_neg (by omega), if_neg (by omega)]; exact errL_mk h
theorem rem_eq (a : Int) {m : Int} (h0 : 0 < m) (h13 : m ≤ 13) : ∃ r, scarfjointref03_remainder.f a m = some r ∧ 0 ≤ r ∧ r < m := by
  have h1 := Int.tmod_lt_of_pos a h0
  have h2 := Int.lt_tmod_of_pos a h0
  have hw : wrap64 (Int.tmod a m + m) = Int.tmod a m + m := w64 (by omega)
  refine ⟨Int.tmod (Int.tmod a m + m) m, ?_, Int.tmod_nonneg _ (by omega), Int.tmod_lt_of_pos _ h0⟩
  unfold scarfjointref03_remainder.f
  rw [if_neg (by omega), hw]
/-- A made test is right. -/
theorem made_eq {k : Int} (h0 : 0 ≤ k) (h12 : k ≤ 12) (c0 c1 c2 c3 : Int) : ∃ r1 r2 r4 r5, scarfjointref03_Made.f k c0 c1 c2 c3 = some (r1, r2, 0, r4, r5) ∧ (r1 = 1 ∨ r1 = 2) ∧ (-1 ≤ r2 ∧ r2 < k) ∧ (-1 ≤ r4 ∧ r4 < k) ∧ -12 < r5 ∧ r5 < 12 := by
  have hk : wrap64 (k + 1) = k + 1 := w64 (by omega)
  obtain ⟨t1, e1, a1, b1⟩ := rem_eq (wrap64 c0) (m := 4) (by omega) (by omega)
  obtain ⟨t2, e2, a2, b2⟩ := rem_eq (wrap64 c1) (m := k + 1) (by omega) (by omega)
  obtain ⟨t3, e3, a3, b3⟩ := rem_eq (wrap64 c2) (m := k + 1) (by omega) (by omega)
  have hd : Int.tdiv t1 3 = t1 / 3 := Int.tdiv_eq_ediv_of_nonneg a1
  have w1 : wrap64 (t1 / 3) = t1 / 3 := w64 (by omega)
  have w2 : wrap64 (1 + t1 / 3) = 1 + t1 / 3 := w64 (by omega)
  have w3 : wrap64 (t2 - 1) = t2 - 1 := w64 (by omega)
  have w4 : wrap64 (t3 - 1) = t3 - 1 := w64 (by omega)
  have h5 := Int.tmod_lt_of_pos (wrap64 c3) (b := 12) (by omega)
  have h6 := Int.lt_tmod_of_pos (wrap64 c3) (b := 12) (by omega)
  refine ⟨1 + t1 / 3, t2 - 1, t3 - 1, Int.tmod (wrap64 c3) 12, ?_, by omega, by omega, by omega, by omega, by omega⟩
  unfold scarfjointref03_Made.f
  rw [hk, e1, e2, e3]
  simp only [Option.bind_some]
  rw [hd, w1, w2, w3, w4]
theorem err_zero {n k lv la rv ra : Int} (hk : k = 1 ∨ k = 2) (h1 : -1 ≤ lv ∧ lv < n) (h2 : -1 ≤ rv ∧ rv < n) (h3 : -1000000 ≤ la ∧ la ≤ 1000000) (h4 : -1000000 ≤ ra ∧ ra ≤ 1000000) : errOf n (⟨k, ⟨lv, la⟩, ⟨rv, ra⟩⟩ : S26) = 0 := by
  unfold errOf errOne
  simp only
  rw [if_neg (by omega), if_pos]
  constructor <;> simp only [termOk, Bool.and_eq_true, decide_eq_true_eq] <;> omega
theorem rdT44_at {l : List S44} {pre rest : List S44} {x : S44} (h : l = pre ++ x :: rest) : rd_T44 l (pre.length : Int) = x := by
  subst h; simp [rd_T44]
theorem few_loop {k : Int} (h0 : 0 ≤ k) (h12 : k ≤ 12) (codes : List S44) (hc : codes.length ≤ 20) : ∀ (rest pre : List S44) (acc : List S26), codes = pre ++ rest → acc.length = pre.length → (∀ x ∈ acc, errOf k x = 0) →
    ∃ l : List S26, l.length = codes.length ∧ (∀ x ∈ l, errOf k x = 0) ∧ Ev (fun q => scarfjointlaw03_few.l0 q k acc codes (codes.length : Int) (pre.length : Int)) (k, l)
  | [], pre, acc, h, ha, hx => by
    refine ⟨acc, by rw [ha, h]; simp, hx, Ev.step (f := fun _ => some (k, acc)) (fun q => ?_) (Ev.now _)⟩
    rw [scarfjointlaw03_few.l0, if_neg (by rw [h]; simp)]
  | c :: rest, pre, acc, h, ha, hx => by
    have hlen : pre.length < codes.length := by rw [h]; simp
    have hw : wrap64 ((pre.length : Int) + 1) = ((pre ++ [c]).length : Int) := by rw [w64 (by omega)]; simp
    obtain ⟨r1, r2, r4, r5, e, g1, g2, g4, g5, g6⟩ := made_eq h0 h12 c.f0 c.f1 c.f2 c.f3
    obtain ⟨l, hl, hxl, hev⟩ := few_loop h0 h12 codes hc rest (pre ++ [c]) (acc ++ [⟨r1, ⟨r2, 0⟩, ⟨r4, r5⟩⟩]) (by rw [h]; simp) (by simp [ha]) (fun x hx1 => by
      rcases List.mem_append.1 hx1 with hx1 | hx1
      · exact hx x hx1
      · rw [List.mem_singleton.1 hx1]
        exact err_zero g1 g2 g4 (by omega) (by omega))
    refine ⟨l, hl, hxl, Ev.step (fun q => ?_) hev⟩
    rw [scarfjointlaw03_few.l0, if_pos (by omega), if_pos (by omega), if_pos (by omega), rdT44_at h, e]
    simp only [Option.bind_some]
    rw [if_pos (by omega), hw]
theorem few_ev {n : Int} (hn : 0 ≤ n) (hn2 : n ≤ 255) (codes : List S44) (hc : codes.length ≤ 20) : ∃ (k : Int) (l : List S26), 0 ≤ k ∧ k ≤ 5 ∧ l.length ≤ 20 ∧ (∀ x ∈ l, errOf k x = 0) ∧ Ev (fun q => scarfjointlaw03_few.f q n codes) (k, l) := by
  have hw : wrap64 n = n := w64 (by omega)
  have h1 := Int.tmod_lt_of_pos n (b := 6) (by omega)
  have h2 := Int.tmod_nonneg (a := n) 6 hn
  obtain ⟨l, hl, hx, he⟩ := few_loop (k := Int.tmod n 6) h2 (by omega) codes hc codes [] [] rfl rfl (fun x hx => by cases hx)
  refine ⟨Int.tmod n 6, l, h2, by omega, by omega, hx, ?_⟩
  unfold scarfjointlaw03_few.f
  rw [hw]
  exact he

end Go.Proofs.Yteebkkdbkkibmaa.Pure
