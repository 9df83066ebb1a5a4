/- The law DifferenceTrue over the printed functions: it comes to true. Conditions: none. -/
import Derived.Test.YteebkkdbkkibmaaQ10
import Derived.Test.YteebkkdbkkibmaaQ1
import Derived.Test.YteebkkdbkkibmaaPr6
import Derived.Test.YteebkkdbkkibmaaPr7
import Derived.Test.YteebkkdbkkibmaaPr8
import Derived.Test.YteebkkdbkkibmaaPr12
import Derived.Test.YteebkkdbkkibmaaPb
namespace Go.Proofs.Yteebkkdbkkibmaa.Pure
open Go.RowKit Go.Proofs.Yteebkkdbkkibmaa.Pr Go.Proofs.YteebkkdbkkibmaaW.PrintWords Go.Proofs.YteebkkdbkkibmaaW.PrintLast Go.Proofs.YteebkkdbkkibmaaW.PrintMore Go.Proofs.Yteebkkdbkkibmaa.Bf
set_option linter.unusedVariables false

def small (l : List Arc) : Prop := ∀ a ∈ l, -3000000 ≤ a.c ∧ a.c ≤ 3000000
theorem wsum_small {l : List Arc} (hs : small l) : ∀ (w : List Arc) (i j : Nat), IsWalk l i w j → -(w.length * 3000000 : Int) ≤ wsum w ∧ wsum w ≤ w.length * 3000000
  | [], _, _, _ => by simp [wsum]
  | a :: w, i, j, ⟨h1, h2, h3⟩ => by
    have := wsum_small hs w a.t j h3
    have := hs a h1
    simp only [wsum, List.length_cons]
    omega
theorem good_small {N : Nat} {l : List S71} (hg : good N l) : small (l.map toA) := by
  intro a ha
  obtain ⟨b, hb, rfl⟩ := List.mem_map.1 ha
  have := hg b hb
  unfold goodA at this
  simp only [toA]
  omega
theorem awake_ev : Ev (fun q => scarfjointlaw03_awake.f q) true := Ev.of scarfjointlaw03_awake.mono (k := 60) (by decide +kernel)

/-! ### Valid tests have good arcs -/
theorem arcsX_good {n : Int} (h0 : 0 ≤ n) (h12 : n ≤ 12) {x : S26} (h : errOf n x = 0) (i : Int) : good (n.toNat + 1) (arcsX i x) := by
  unfold errOf errOne at h
  split at h
  · omega
  · split at h
    · rename_i hk ht
      obtain ⟨h1, h2⟩ := ht
      simp only [termOk, Bool.and_eq_true, decide_eq_true_eq] at h1 h2
      have w1 : wrap64 (x.f1.f0 + 1) = x.f1.f0 + 1 := w64 (by omega)
      have w2 : wrap64 (x.f2.f0 + 1) = x.f2.f0 + 1 := w64 (by omega)
      have w3 : wrap64 (x.f2.f1 - x.f1.f1) = x.f2.f1 - x.f1.f1 := w64 (by omega)
      have w4 : wrap64 (-(x.f2.f1 - x.f1.f1)) = -(x.f2.f1 - x.f1.f1) := w64 (by omega)
      have g1 : goodA (n.toNat + 1) (arc1 i x) := by unfold goodA arc1; simp only; rw [w1, w2, w3]; omega
      have g2 : goodA (n.toNat + 1) (arc2 i x) := by unfold goodA arc2; simp only; rw [w1, w2, w3, w4]; omega
      unfold arcsX
      split
      · intro a ha
        rcases List.mem_cons.1 ha with rfl | ha
        · exact g1
        · rcases List.mem_cons.1 ha with rfl | ha
          · exact g2
          · cases ha
      · intro a ha
        rcases List.mem_cons.1 ha with rfl | ha
        · exact g1
        · cases ha
    · omega
theorem errL_zero {n : Int} : ∀ {l : List S26}, errL n l = 0 → ∀ x ∈ l, errOf n x = 0
  | [], _ => fun x hx => by cases hx
  | y :: l, h => by
    unfold errL at h
    split at h
    · rename_i h1
      intro x hx
      rcases List.mem_cons.1 hx with rfl | hx
      · exact h1
      · exact errL_zero h x hx
    · rename_i h1; exact absurd h h1
theorem arcsF_good {n : Int} (h0 : 0 ≤ n) (h12 : n ≤ 12) : ∀ (l : List S26) (i : Nat), (∀ x ∈ l, errOf n x = 0) → good (n.toNat + 1) (arcsF i l)
  | [], i, _ => fun a ha => by cases ha
  | x :: l, i, h => fun a ha => by
    rcases List.mem_append.1 ha with ha | ha
    · exact arcsX_good h0 h12 (h x (by simp)) _ a ha
    · exact arcsF_good h0 h12 l (i + 1) (fun y hy => h y (by simp [hy])) a ha
theorem errV_zero {n : Int} {l : List S26} (h : errV n l = 0) : 0 ≤ n ∧ n ≤ 12 ∧ l.length ≤ 40 ∧ ∀ x ∈ l, errOf n x = 0 := by
  unfold errV at h
  split at h
  · omega
  · split at h
    · omega
    · exact ⟨by omega, by omega, by omega, errL_zero h⟩

theorem awake_some : Ev (fun q => (scarfjointlaw03_awake.f q).bind fun t => some t) true := Ev.bind awake_ev (Ev.now true)
/-! ### Implied -/
def Imp (l : List Arc) (a : Arc) : Prop := ∀ v, Sat v l → v a.s ≤ v a.t + a.c
theorem imp_infeas (l : List Arc) (a : Arc) : Imp l a ↔ ¬ Feas (l ++ [⟨a.t, a.s, -a.c - 1⟩]) := by
  constructor
  · rintro h ⟨v, hv⟩
    have h1 := h v (fun b hb => hv b (List.mem_append_left _ hb))
    have h2 := hv ⟨a.t, a.s, -a.c - 1⟩ (List.mem_append_right _ (by simp))
    simp only at h2
    omega
  · intro h v hv
    apply Classical.byContradiction
    intro hn
    refine h ⟨v, fun b hb => ?_⟩
    rcases List.mem_append.1 hb with hb | hb
    · exact hv b hb
    · rw [List.mem_singleton.1 hb]
      simp only
      omega
theorem map_append_toA (l : List S71) (a : S71) : (l ++ [a]).map toA = l.map toA ++ [toA a] := by simp
theorem implied_ev {n : Int} (h0 : 0 ≤ n) (h12 : n ≤ 12) {L : List S71} (hL : L.length ≤ 900) (hg : good (n.toNat + 1) L) (a : S71) (hga : goodA (n.toNat + 1) a) (hsm : -2000000 ≤ a.f3 ∧ a.f3 ≤ 2000000) {b : Bool} (hb : b = true ↔ Imp (L.map toA) (toA a)) :
    Ev (fun q => difference_implied.f q n L a.f0.f0 a.f0.f1 a.f1 a.f2 a.f3) b := by
  unfold goodA at hga
  have w1 : wrap64 (-a.f3) = -a.f3 := w64 (by omega)
  have w2 : wrap64 (-a.f3 - 1) = -a.f3 - 1 := w64 (by omega)
  have hg2 : good (n.toNat + 1) (L ++ [⟨⟨0, 0⟩, a.f2, a.f1, -a.f3 - 1⟩]) := by
    intro x hx
    rcases List.mem_append.1 hx with hx | hx
    · exact hg x hx
    · rw [List.mem_singleton.1 hx]; unfold goodA; simp only; omega
  have hd := imp_infeas (L.map toA) (toA a)
  have he : (L ++ [(⟨⟨0, 0⟩, a.f2, a.f1, -a.f3 - 1⟩ : S71)]).map toA = L.map toA ++ [⟨(toA a).t, (toA a).s, -(toA a).c - 1⟩] := map_append_toA _ _
  unfold difference_implied.f
  refine Ev.const_bind (a := L) (by unfold difference_arc_64.f; simp only [Option.bind_some, List.length_nil, List.nil_append]; rw [if_pos (by omega)]) ?_
  rw [w1, w2]
  refine Ev.some_bind ?_
  refine Ev.ite_pos (by simp; omega) ?_
  cases b with
  | true =>
    have hnf : ¬ Feas ((L ++ [(⟨⟨0, 0⟩, a.f2, a.f1, -a.f3 - 1⟩ : S71)]).map toA) := by rw [he]; exact hd.1 (hb.1 rfl)
    exact Ev.bind (dist_ev h0 h12 hg2 (by simp; omega) (R := ([], false)) ⟨fun hf => absurd hf hnf, fun _ => rfl⟩) (Ev.now true)
  | false =>
    have hf : Feas ((L ++ [(⟨⟨0, 0⟩, a.f2, a.f1, -a.f3 - 1⟩ : S71)]).map toA) := Classical.byContradiction fun hnf => by
      rw [he] at hnf
      have := hb.2 (hd.2 hnf)
      cases this
    exact Ev.bind (dist_ev h0 h12 hg2 (by simp; omega) (R := (_, true)) ⟨fun _ => rfl, fun hnf => absurd hf hnf⟩) (Ev.now false)

theorem Imp_loop {n : Int} (h0 : 0 ≤ n) (h12 : n ≤ 12) {l : List S26} (hl : l.length ≤ 400) (hv : ∀ x ∈ l, errOf n x = 0) (X : List S71) (hX : X.length ≤ 10) (hgX : good (n.toNat + 1) X) (hsX : ∀ a ∈ X, -2000000 ≤ a.f3 ∧ a.f3 ≤ 2000000) {b : Bool} :
    ∀ (rest pre : List S71), X = pre ++ rest → (b = true ↔ ∀ a ∈ rest, Imp ((arcsF 0 l).map toA) (toA a)) → Ev (fun q => difference_Implies.l0 q n l X (X.length : Int) (pre.length : Int)) (b, 0)
  | [], pre, h, hb => by
    rw [hb.2 (fun a ha => by cases ha)]
    refine Ev.step (f := fun _ => some (true, 0)) (fun q => ?_) (Ev.now _)
    rw [difference_Implies.l0, if_neg (by rw [h]; simp)]
  | a :: rest, pre, h, hb => by
    have hlen : pre.length < X.length := by rw [h]; simp
    have hw : wrap64 ((pre.length : Int) + 1) = ((pre ++ [a]).length : Int) := by rw [w64 (by omega)]; simp
    have hga := hgX a (by rw [h]; simp)
    have hsa := hsX a (by rw [h]; simp)
    have haf := arcsF_len 0 l
    by_cases hi : Imp ((arcsF 0 l).map toA) (toA a)
    · have ih := Imp_loop h0 h12 hl hv X hX hgX hsX (b := b) rest (pre ++ [a]) (by rw [h]; simp) ⟨fun h1 c hc => hb.1 h1 c (by simp [hc]), fun h1 => hb.2 (fun c hc => by
        rcases List.mem_cons.1 hc with rfl | hc
        · exact hi
        · exact h1 c hc)⟩
      refine Ev.step (f := fun q => (difference_arcs.f q l).bind fun t156 => ((difference_implied.f q n t156 a.f0.f0 a.f0.f1 a.f1 a.f2 a.f3).bind fun t159 => (if t159 = true then (difference_Implies.l0 q n l X (X.length : Int) ((pre ++ [a]).length : Int)) else (some (false, 0))))) (fun q => ?_) ?_
      · rw [difference_Implies.l0, if_pos (by omega), if_pos (by omega), if_pos (by omega), rdT71_at h, hw]
      · refine Ev.bind (arcs_ev l (by omega)) ?_
        refine Ev.bind (implied_ev h0 h12 (by omega) (arcsF_good h0 h12 l 0 hv) a hga hsa (b := true) ⟨fun _ => hi, fun _ => rfl⟩) ?_
        exact Ev.ite_pos rfl ih
    · have hbf : b = false := by
        cases b with
        | false => rfl
        | true => exact absurd (hb.1 rfl a (by simp)) hi
      rw [hbf]
      refine Ev.step (f := fun q => (difference_arcs.f q l).bind fun t156 => ((difference_implied.f q n t156 a.f0.f0 a.f0.f1 a.f1 a.f2 a.f3).bind fun t159 => (if t159 = true then (difference_Implies.l0 q n l X (X.length : Int) ((pre ++ [a]).length : Int)) else (some (false, 0))))) (fun q => ?_) ?_
      · rw [difference_Implies.l0, if_pos (by omega), if_pos (by omega), if_pos (by omega), rdT71_at h, hw]
      · refine Ev.bind (arcs_ev l (by omega)) ?_
        refine Ev.bind (implied_ev h0 h12 (by omega) (arcsF_good h0 h12 l 0 hv) a hga hsa (b := false) ⟨fun h => by simp at h, fun h => absurd h hi⟩) ?_
        exact Ev.ite_neg (by simp) (Ev.now _)

/-- Do the tests l imply the test x? -/
def ImpX (l : List S26) (x : S26) : Prop := ∀ a ∈ arcsX 0 x, Imp ((arcsF 0 l).map toA) (toA a)
theorem arcsX_two {n : Int} {x : S26} (h : errOf n x = 0) (i : Int) : ∀ a ∈ arcsX i x, -2000000 ≤ a.f3 ∧ a.f3 ≤ 2000000 := by
  unfold errOf errOne at h
  split at h
  · omega
  · split at h
    · rename_i hk ht
      obtain ⟨h1, h2⟩ := ht
      simp only [termOk, Bool.and_eq_true, decide_eq_true_eq] at h1 h2
      have w3 : wrap64 (x.f2.f1 - x.f1.f1) = x.f2.f1 - x.f1.f1 := w64 (by omega)
      have w4 : wrap64 (-(x.f2.f1 - x.f1.f1)) = -(x.f2.f1 - x.f1.f1) := w64 (by omega)
      intro a ha
      unfold arcsX at ha
      split at ha
      · rcases List.mem_cons.1 ha with rfl | ha
        · unfold arc1; simp only; rw [w3]; omega
        · rcases List.mem_cons.1 ha with rfl | ha
          · unfold arc2; simp only; rw [w3, w4]; omega
          · cases ha
      · rcases List.mem_cons.1 ha with rfl | ha
        · unfold arc1; simp only; rw [w3]; omega
        · cases ha
    · omega
/-- The answer of Implies. -/
def impR (n : Int) (l : List S26) (x : S26) (b : Bool) : Bool × Int := if errV n l = 0 then (if errOf n x = 0 then (b, 0) else (false, errOf n x)) else (false, errV n l)
theorem implies_ev (n : Int) (l : List S26) (x : S26) {b : Bool} (hb : b = true ↔ ImpX l x) : Ev (fun q => difference_Implies.f q n l x.f0 x.f1.f0 x.f1.f1 x.f2.f0 x.f2.f1) (impR n l x b) := by
  unfold difference_Implies.f impR
  refine Ev.bind (valid_ev n l) ?_
  by_cases h1 : errV n l = 0
  · rw [if_pos h1]
    refine Ev.ite_pos h1 ?_
    refine Ev.bind (one_ev n _ _ _ _ _) ?_
    obtain ⟨h0, h12, h40, hv⟩ := errV_zero h1
    by_cases h2 : errOf n x = 0
    · rw [if_pos h2]
      refine Ev.ite_pos h2 ?_
      have he : arcsF 0 [(⟨x.f0, (⟨x.f1.f0, x.f1.f1⟩ : S24), (⟨x.f2.f0, x.f2.f1⟩ : S24)⟩ : S26)] = arcsX 0 x := by simp [arcsF]
      have ha := arcs_ev [(⟨x.f0, (⟨x.f1.f0, x.f1.f1⟩ : S24), (⟨x.f2.f0, x.f2.f1⟩ : S24)⟩ : S26)] (by simp)
      rw [he] at ha
      refine Ev.bind ha ?_
      have hXl := arcsX_len 0 x
      exact Imp_loop h0 h12 (by omega) hv (arcsX 0 x) (by omega) (arcsX_good h0 h12 h2 0) (arcsX_two h2 0) (arcsX 0 x) [] rfl hb
    · rw [if_neg h2]
      exact Ev.ite_neg h2 (Ev.now _)
  · rw [if_neg h1]
    exact Ev.ite_neg h1 (Ev.now _)
theorem tab_snoc (N : Nat) (D : Nat → Int) : tab N D ++ [D N] = tab (N + 1) D := by simp [tab, List.range_succ]
theorem solve_loop {M : Nat} (hM : M ≤ 12) (D : Nat → Int) (hD : ∀ i, -100000000 ≤ D i ∧ D i ≤ 100000000) : ∀ (m i : Nat), i + m = M →
    Ev (fun q => difference_Solve.l0 q (tab (M + 1) D) (tab i (fun j => D (j + 1) - D 0)) (tab M (fun j => D (j + 1))) (M : Int) (i : Int)) (tab M (fun j => D (j + 1) - D 0), 0)
  | 0, i, hi => by
    obtain rfl : i = M := by omega
    refine Ev.step (f := fun _ => some (tab i (fun j => D (j + 1) - D 0), 0)) (fun q => ?_) (Ev.now _)
    rw [difference_Solve.l0, if_neg (by omega)]
  | m + 1, i, hi => by
    have ih := solve_loop hM D hD m (i + 1) (by omega)
    rw [← tab_snoc i] at ih
    have hw : wrap64 ((i : Int) + 1) = ((i + 1 : Nat) : Int) := by rw [w64 (by omega)]; omega
    have h1 := hD (i + 1)
    have h0 := hD 0
    have hws : wrap64 (D (i + 1) - D 0) = D (i + 1) - D 0 := w64 (by omega)
    have hin : (i : Int).toNat = i := by omega
    refine Ev.step (fun q => ?_) ih
    rw [difference_Solve.l0, tab_len, tab_len, tab_len, if_pos (by omega), if_pos (by omega), if_pos (by omega), if_pos (by omega), if_pos (by omega), tab_rd (by omega) (by omega), tab_rd (by omega) (by omega), hin, hw]
    simp only [Int.toNat_zero]
    rw [hws]
theorem tab_drop (M : Nat) (D : Nat → Int) : (tab (M + 1) D).drop 1 = tab M (fun j => D (j + 1)) := by
  apply List.ext_getElem
  · simp [tab]
  · intro i h1 h2
    simp [tab]
theorem best_bound {l : List Arc} (hs : small l) (k : Nat) (hk : k ≤ 20) (i : Nat) : -100000000 ≤ best l (fun _ => 0) k i ∧ best l (fun _ => 0) k i ≤ 100000000 := by
  obtain ⟨w, j, hw, hlen, he⟩ := best_eq (l := l) (init := fun _ => 0) k i
  have := wsum_small hs w i j hw
  omega
/-- The standard solution. -/
def solL (A : List Arc) (M : Nat) : List Int := tab M (fun j => best A (fun _ => 0) (M + 1) (j + 1) - best A (fun _ => 0) (M + 1) 0)
open Classical in
/-- The answer of Solve. -/
noncomputable def solR (n : Int) (l : List S26) : List Int × Int := if errV n l = 0 then (if Feas ((arcsF 0 l).map toA) then (solL ((arcsF 0 l).map toA) n.toNat, 0) else ([], 10)) else ([], errV n l)
theorem solve_ev (n : Int) (l : List S26) : Ev (fun q => difference_Solve.f q n l) (solR n l) := by
  unfold difference_Solve.f solR
  refine Ev.bind (valid_ev n l) ?_
  by_cases h : errV n l = 0
  · rw [if_pos h]
    refine Ev.ite_pos h ?_
    obtain ⟨h0, h12, h40, hv⟩ := errV_zero h
    have hgA := arcsF_good h0 h12 l 0 hv
    have hl := arcsF_len 0 l
    refine Ev.bind (arcs_ev l (by omega)) ?_
    by_cases hf : Feas ((arcsF 0 l).map toA)
    · rw [if_pos hf]
      refine Ev.bind (dist_ev h0 h12 hgA (by omega) (R := (_, true)) ⟨fun _ => rfl, fun hnf => absurd hf hnf⟩) ?_
      refine Ev.ite_pos rfl (Ev.ite_pos (by rw [tab_len]; omega) ?_)
      refine Ev.some_bind ?_
      simp only
      rw [tab_drop, tab_len]
      exact solve_loop (by omega) _ (best_bound (good_small hgA) _ (by omega)) n.toNat 0 (by omega)
    · rw [if_neg hf]
      refine Ev.bind (dist_ev h0 h12 hgA (by omega) (R := ([], false)) ⟨fun h2 => absurd h2 hf, fun _ => rfl⟩) ?_
      exact Ev.ite_neg (by simp) (Ev.now _)
  · rw [if_neg h]
    exact Ev.ite_neg h (Ev.now _)
theorem arcsF_app : ∀ (l m : List S26) (i : Nat), arcsF i (l ++ m) = arcsF i l ++ arcsF (i + l.length) m
  | [], m, i => by simp [arcsF]
  | x :: l, m, i => by
    simp only [List.cons_append, arcsF, List.append_assoc, arcsF_app l m (i + 1), List.length_cons]
    rw [show i + 1 + l.length = i + (l.length + 1) by omega]
theorem errL_mk {n : Int} : ∀ {l : List S26}, (∀ x ∈ l, errOf n x = 0) → errL n l = 0
  | [], _ => rfl
  | x :: l, h => by unfold errL; rw [if_pos (h x (by simp))]; exact errL_mk (fun y hy => h y (by simp [hy]))
theorem errV_mk {n : Int} {l : List S26} (h0 : 0 ≤ n) (h12 : n ≤ 12) (hl : l.length ≤ 40) (h : ∀ x ∈ l, errOf n x = 0) : errV n l = 0 := by
  unfold errV; rw [if_neg (by omega), if_neg (by omega)]; exact errL_mk h
theorem rem_eq (a : Int) {m : Int} (h0 : 0 < m) (h13 : m ≤ 13) : ∃ r, scarfjointref03_remainder.f a m = some r ∧ 0 ≤ r ∧ r < m := by
  have h1 := Int.tmod_lt_of_pos a h0
  have h2 := Int.lt_tmod_of_pos a h0
  have hw : wrap64 (Int.tmod a m + m) = Int.tmod a m + m := w64 (by omega)
  refine ⟨Int.tmod (Int.tmod a m + m) m, ?_, Int.tmod_nonneg _ (by omega), Int.tmod_lt_of_pos _ h0⟩
  unfold scarfjointref03_remainder.f
  rw [if_neg (by omega), hw]
/-- A made test is right. -/
theorem made_eq {k : Int} (h0 : 0 ≤ k) (h12 : k ≤ 12) (c0 c1 c2 c3 : Int) : ∃ r1 r2 r4 r5, scarfjointref03_Made.f k c0 c1 c2 c3 = some (r1, r2, 0, r4, r5) ∧ (r1 = 1 ∨ r1 = 2) ∧ (-1 ≤ r2 ∧ r2 < k) ∧ (-1 ≤ r4 ∧ r4 < k) ∧ -12 < r5 ∧ r5 < 12 := by
  have hk : wrap64 (k + 1) = k + 1 := w64 (by omega)
  obtain ⟨t1, e1, a1, b1⟩ := rem_eq (wrap64 c0) (m := 4) (by omega) (by omega)
  obtain ⟨t2, e2, a2, b2⟩ := rem_eq (wrap64 c1) (m := k + 1) (by omega) (by omega)
  obtain ⟨t3, e3, a3, b3⟩ := rem_eq (wrap64 c2) (m := k + 1) (by omega) (by omega)
  have hd : Int.tdiv t1 3 = t1 / 3 := Int.tdiv_eq_ediv_of_nonneg a1
  have w1 : wrap64 (t1 / 3) = t1 / 3 := w64 (by omega)
  have w2 : wrap64 (1 + t1 / 3) = 1 + t1 / 3 := w64 (by omega)
  have w3 : wrap64 (t2 - 1) = t2 - 1 := w64 (by omega)
  have w4 : wrap64 (t3 - 1) = t3 - 1 := w64 (by omega)
  have h5 := Int.tmod_lt_of_pos (wrap64 c3) (b := 12) (by omega)
  have h6 := Int.lt_tmod_of_pos (wrap64 c3) (b := 12) (by omega)
  refine ⟨1 + t1 / 3, t2 - 1, t3 - 1, Int.tmod (wrap64 c3) 12, ?_, by omega, by omega, by omega, by omega, by omega⟩
  unfold scarfjointref03_Made.f
  rw [hk, e1, e2, e3]
  simp only [Option.bind_some]
  rw [hd, w1, w2, w3, w4]
theorem err_zero {n k lv la rv ra : Int} (hk : k = 1 ∨ k = 2) (h1 : -1 ≤ lv ∧ lv < n) (h2 : -1 ≤ rv ∧ rv < n) (h3 : -1000000 ≤ la ∧ la ≤ 1000000) (h4 : -1000000 ≤ ra ∧ ra ≤ 1000000) : errOf n (⟨k, ⟨lv, la⟩, ⟨rv, ra⟩⟩ : S26) = 0 := by
  unfold errOf errOne
  simp only
  rw [if_neg (by omega), if_pos]
  constructor <;> simp only [termOk, Bool.and_eq_true, decide_eq_true_eq] <;> omega
theorem rdT44_at {l : List S44} {pre rest : List S44} {x : S44} (h : l = pre ++ x :: rest) : rd_T44 l (pre.length : Int) = x := by
  subst h; simp [rd_T44]
theorem few_loop {k : Int} (h0 : 0 ≤ k) (h12 : k ≤ 12) (codes : List S44) (hc : codes.length ≤ 20) : ∀ (rest pre : List S44) (acc : List S26), codes = pre ++ rest → acc.length = pre.length → (∀ x ∈ acc, errOf k x = 0) →
    ∃ l : List S26, l.length = codes.length ∧ (∀ x ∈ l, errOf k x = 0) ∧ Ev (fun q => scarfjointlaw03_few.l0 q k acc codes (codes.length : Int) (pre.length : Int)) (k, l)
  | [], pre, acc, h, ha, hx => by
    refine ⟨acc, by rw [ha, h]; simp, hx, Ev.step (f := fun _ => some (k, acc)) (fun q => ?_) (Ev.now _)⟩
    rw [scarfjointlaw03_few.l0, if_neg (by rw [h]; simp)]
  | c :: rest, pre, acc, h, ha, hx => by
    have hlen : pre.length < codes.length := by rw [h]; simp
    have hw : wrap64 ((pre.length : Int) + 1) = ((pre ++ [c]).length : Int) := by rw [w64 (by omega)]; simp
    obtain ⟨r1, r2, r4, r5, e, g1, g2, g4, g5, g6⟩ := made_eq h0 h12 c.f0 c.f1 c.f2 c.f3
    obtain ⟨l, hl, hxl, hev⟩ := few_loop h0 h12 codes hc rest (pre ++ [c]) (acc ++ [⟨r1, ⟨r2, 0⟩, ⟨r4, r5⟩⟩]) (by rw [h]; simp) (by simp [ha]) (fun x hx1 => by
      rcases List.mem_append.1 hx1 with hx1 | hx1
      · exact hx x hx1
      · rw [List.mem_singleton.1 hx1]
        exact err_zero g1 g2 g4 (by omega) (by omega))
    refine ⟨l, hl, hxl, Ev.step (fun q => ?_) hev⟩
    rw [scarfjointlaw03_few.l0, if_pos (by omega), if_pos (by omega), if_pos (by omega), rdT44_at h, e]
    simp only [Option.bind_some]
    rw [if_pos (by omega), hw]
theorem few_ev {n : Int} (hn : 0 ≤ n) (hn2 : n ≤ 255) (codes : List S44) (hc : codes.length ≤ 20) : ∃ (k : Int) (l : List S26), 0 ≤ k ∧ k ≤ 5 ∧ l.length ≤ 20 ∧ (∀ x ∈ l, errOf k x = 0) ∧ Ev (fun q => scarfjointlaw03_few.f q n codes) (k, l) := by
  have hw : wrap64 n = n := w64 (by omega)
  have h1 := Int.tmod_lt_of_pos n (b := 6) (by omega)
  have h2 := Int.tmod_nonneg (a := n) 6 hn
  obtain ⟨l, hl, hx, he⟩ := few_loop (k := Int.tmod n 6) h2 (by omega) codes hc codes [] [] rfl rfl (fun x hx => by cases hx)
  refine ⟨Int.tmod n 6, l, h2, by omega, by omega, hx, ?_⟩
  unfold scarfjointlaw03_few.f
  rw [hw]
  exact he
/-! ### Holds -/
theorem u64_mod (x : Int) : IntKind.u64.wrap x = x % 18446744073709551616 := by
  simp [IntKind.wrap, IntKind.signed, IntKind.bits]
theorem wide_eq {a b : Int} (ha : -1125899906842624 ≤ a ∧ a ≤ 1125899906842624) (hb : -1125899906842624 ≤ b ∧ b ≤ 1125899906842624) : difference_wide.f a b = some (if a + b < 0 then -1 else 0, (a + b) % 18446744073709551616) := by
  unfold difference_wide.f
  rw [u64_mod, u64_mod]
  have h1 : (a % 18446744073709551616 + b % 18446744073709551616) % 18446744073709551616 = (a + b) % 18446744073709551616 := by omega
  have w1 : wrap64 (a / 9223372036854775808 + b / 9223372036854775808) = a / 9223372036854775808 + b / 9223372036854775808 := w64 (by omega)
  have w2 : wrap64 ((a % 18446744073709551616 + b % 18446744073709551616) / 18446744073709551616) = (a % 18446744073709551616 + b % 18446744073709551616) / 18446744073709551616 := w64 (by omega)
  have w3 : wrap64 (a / 9223372036854775808 + b / 9223372036854775808 + (a % 18446744073709551616 + b % 18446744073709551616) / 18446744073709551616) = a / 9223372036854775808 + b / 9223372036854775808 + (a % 18446744073709551616 + b % 18446744073709551616) / 18446744073709551616 := w64 (by omega)
  rw [w1, w2, w3, h1]
  congr 2
  split <;> omega
/-- The value of a variable, or 0. -/
def var0 (v : List Int) (i : Int) : Int := if i = -1 then 0 else rd v i
theorem holds1_eq {v : List Int} (hv : ∀ i : Int, -1099511627776 ≤ rd v i ∧ rd v i ≤ 1099511627776) {i a : Int} (ha : -1099511627776 ≤ a ∧ a ≤ 1099511627776) (hi : -1 ≤ i ∧ i < v.length) : difference_Holds_1.f i a v = some (if var0 v i + a < 0 then -1 else 0, (var0 v i + a) % 18446744073709551616, true) := by
  unfold difference_Holds_1.f var0
  by_cases h : i = -1
  · rw [if_pos h, if_pos h, wide_eq (by omega) (by omega)]
    rfl
  · have := hv i
    rw [if_neg h, if_neg h, if_neg (by omega), if_neg (by omega), if_pos (by omega), if_pos (by omega), wide_eq (by omega) (by omega)]
    rfl
theorem comp_eq (a b : Int) : cmp_Compare_int.f a b = some (if a < b then -1 else if a > b then 1 else 0) := by
  unfold cmp_Compare_int.f cmp_isNaN_int.f
  simp
  split <;> (try split) <;> rfl
theorem compu_eq (a b : Int) : cmp_Compare_uint64.f a b = some (if a < b then -1 else if a > b then 1 else 0) := by
  unfold cmp_Compare_uint64.f cmp_isNaN_uint64.f
  simp
  split <;> (try split) <;> rfl
theorem or_ev (x y : Int) : Ev (fun q => cmp_Or_int.f q [x, y]) (if x = 0 then y else x) := by
  have w0 : wrap64 (0 + 1) = 1 := w64 (by omega)
  have w1 : wrap64 (1 + 1) = 2 := w64 (by omega)
  have r0 : rd [x, y] 0 = x := rfl
  have r1 : rd [x, y] 1 = y := rfl
  unfold cmp_Or_int.f
  have hl : (([x, y] : List Int).length : Int) = 2 := rfl
  rw [hl]
  by_cases hx : x = 0
  · rw [if_pos hx]
    by_cases hy : y = 0
    · refine Ev.step (f := fun q => cmp_Or_int.l0 q 0 [x, y] 2 1) (fun q => ?_) (Ev.step (f := fun q => cmp_Or_int.l0 q 0 [x, y] 2 2) (fun q => ?_) (Ev.step (f := fun _ => some y) (fun q => ?_) (Ev.now _)))
      · rw [cmp_Or_int.l0, if_pos (by omega), if_pos (by omega), hl, if_pos (by omega), r0, if_pos hx, w0]
      · rw [cmp_Or_int.l0, if_pos (by omega), if_pos (by omega), hl, if_pos (by omega), r1, if_pos hy, w1]
      · rw [cmp_Or_int.l0, if_neg (by omega), hy]
    · refine Ev.step (f := fun q => cmp_Or_int.l0 q 0 [x, y] 2 1) (fun q => ?_) (Ev.step (f := fun _ => some y) (fun q => ?_) (Ev.now _))
      · rw [cmp_Or_int.l0, if_pos (by omega), if_pos (by omega), hl, if_pos (by omega), r0, if_pos hx, w0]
      · rw [cmp_Or_int.l0, if_pos (by omega), if_pos (by omega), hl, if_pos (by omega), r1, if_neg hy]
  · rw [if_neg hx]
    refine Ev.step (f := fun _ => some x) (fun q => ?_) (Ev.now _)
    rw [cmp_Or_int.l0, if_pos (by omega), if_pos (by omega), hl, if_pos (by omega), r0, if_neg hx]
/-- Does the test hold of the values? -/
def holdsP (v : List Int) (x : S26) : Prop := (x.f0 = 1 ∧ var0 v x.f1.f0 + x.f1.f1 ≤ var0 v x.f2.f0 + x.f2.f1) ∨ (x.f0 = 2 ∧ var0 v x.f1.f0 + x.f1.f1 = var0 v x.f2.f0 + x.f2.f1)
theorem var0_small {v : List Int} (hv : ∀ i : Int, -1099511627776 ≤ rd v i ∧ rd v i ≤ 1099511627776) (i : Int) : -1099511627776 ≤ var0 v i ∧ var0 v i ≤ 1099511627776 := by
  unfold var0
  split
  · omega
  · exact hv i
theorem holds_ev {v : List Int} (hv : ∀ i : Int, -1099511627776 ≤ rd v i ∧ rd v i ≤ 1099511627776) {x : S26} (h1 : -1 ≤ x.f1.f0 ∧ x.f1.f0 < v.length) (h2 : -1 ≤ x.f2.f0 ∧ x.f2.f0 < v.length) (h3 : -1099511627776 ≤ x.f1.f1 ∧ x.f1.f1 ≤ 1099511627776) (h4 : -1099511627776 ≤ x.f2.f1 ∧ x.f2.f1 ≤ 1099511627776)
    {b : Bool} (hb : b = true ↔ holdsP v x) : Ev (fun q => difference_Holds.f q x.f0 x.f1.f0 x.f1.f1 x.f2.f0 x.f2.f1 v) b := by
  have hA := var0_small hv x.f1.f0
  have hB := var0_small hv x.f2.f0
  unfold difference_Holds.f
  refine Ev.const_bind (holds1_eq hv h3 h1) ?_
  refine Ev.const_bind (holds1_eq hv h4 h2) ?_
  refine Ev.ite_pos rfl ?_
  unfold holdsP at hb
  have hAB : ∃ A B : Int, A = var0 v x.f1.f0 + x.f1.f1 ∧ B = var0 v x.f2.f0 + x.f2.f1 := ⟨_, _, rfl, rfl⟩
  obtain ⟨A, B, eA, eB⟩ := hAB
  simp only [← eA, ← eB] at hb ⊢
  have kA : -4398046511104 ≤ A ∧ A ≤ 4398046511104 := by omega
  have kB : -4398046511104 ≤ B ∧ B ≤ 4398046511104 := by omega
  clear eA eB hA hB h1 h2 h3 h4 hv
  obtain ⟨c, hc⟩ : ∃ c : Int, c = if (if A < 0 then (-1 : Int) else 0) < (if B < 0 then (-1 : Int) else 0) then -1 else if (if A < 0 then (-1 : Int) else 0) > (if B < 0 then (-1 : Int) else 0) then 1 else 0 := ⟨_, rfl⟩
  obtain ⟨d, hd⟩ : ∃ d : Int, d = if A % 18446744073709551616 < B % 18446744073709551616 then -1 else if A % 18446744073709551616 > B % 18446744073709551616 then 1 else 0 := ⟨_, rfl⟩
  obtain ⟨o, ho⟩ : ∃ o : Int, o = if c = 0 then d else c := ⟨_, rfl⟩
  have hcv : (A < 0 ∧ 0 ≤ B ∧ c = -1) ∨ (0 ≤ A ∧ B < 0 ∧ c = 1) ∨ (c = 0 ∧ A < 0 ∧ B < 0) ∨ (c = 0 ∧ 0 ≤ A ∧ 0 ≤ B) := by
    by_cases a1 : A < 0 <;> by_cases b1 : B < 0 <;> simp [a1, b1] at hc <;> omega
  have hdv : (A % 18446744073709551616 < B % 18446744073709551616 ∧ d = -1) ∨ (A % 18446744073709551616 > B % 18446744073709551616 ∧ d = 1) ∨ (A % 18446744073709551616 = B % 18446744073709551616 ∧ d = 0) := by
    rw [hd]
    split
    · exact .inl ⟨by assumption, rfl⟩
    · split
      · exact .inr (.inl ⟨by assumption, rfl⟩)
      · exact .inr (.inr ⟨by omega, rfl⟩)
  have hov : (c = 0 ∧ o = d) ∨ (c ≠ 0 ∧ o = c) := by
    rw [ho]
    split
    · exact .inl ⟨by assumption, rfl⟩
    · exact .inr ⟨by assumption, rfl⟩
  have h1 : o ≤ 0 ↔ A ≤ B := by omega
  have h2 : o = 0 ↔ A = B := by omega
  refine Ev.step (f := fun q => (cmp_Or_int.f q [c, d]).bind fun t585 => (if x.f0 = 1 then (if t585 ≤ 0 then (some true) else (if x.f0 = 2 then (some (t585 == 0)) else (some false))) else (if x.f0 = 2 then (some (t585 == 0)) else (some false)))) (fun q => ?_) ?_
  · rw [difference_Holds.j0, if_neg (by simp), comp_eq, compu_eq, hc, hd]
    rfl
  · have hor := or_ev c d
    rw [← ho] at hor
    refine Ev.bind hor ?_
    have fin : ∀ b' : Bool, (b' = true ↔ ((x.f0 = 1 ∧ A ≤ B) ∨ (x.f0 = 2 ∧ A = B))) → Ev (fun _ => some b') b := fun b' hb' => by
      have : b' = b := Bool.eq_iff_iff.2 (hb'.trans hb.symm)
      rw [this]; exact Ev.now b
    by_cases k1 : x.f0 = 1
    · refine Ev.ite_pos k1 ?_
      by_cases ho1 : o ≤ 0
      · exact Ev.ite_pos ho1 (fin true ⟨fun _ => .inl ⟨k1, h1.1 ho1⟩, fun _ => rfl⟩)
      · exact Ev.ite_neg ho1 (Ev.ite_neg (by omega) (fin false ⟨fun h => (by cases h), fun h => by omega⟩))
    · refine Ev.ite_neg k1 ?_
      by_cases k2 : x.f0 = 2
      · exact Ev.ite_pos k2 (fin (o == 0) ⟨fun h => .inr ⟨k2, h2.1 (by simpa using h)⟩, fun h => by
          have : o = 0 := by omega
          simp [this]⟩)
      · exact Ev.ite_neg k2 (fin false ⟨fun h => (by cases h), fun h => by omega⟩)

/-! ### Values as a solution -/
/-- The values, as values of places. -/
def pl (v : List Int) (i : Nat) : Int := var0 v ((i : Int) - 1)
theorem pl_eq (v : List Int) {i : Int} (h : -1 ≤ i) : pl v (i + 1).toNat = var0 v i := by
  unfold pl
  have : (((i + 1).toNat : Nat) : Int) - 1 = i := by omega
  rw [this]
/-- A right test has small numbers and places. -/
theorem err_parts {n : Int} {x : S26} (h : errOf n x = 0) : (x.f0 = 1 ∨ x.f0 = 2) ∧ (-1 ≤ x.f1.f0 ∧ x.f1.f0 < n) ∧ (-1 ≤ x.f2.f0 ∧ x.f2.f0 < n) ∧ (-1000000 ≤ x.f1.f1 ∧ x.f1.f1 ≤ 1000000) ∧ (-1000000 ≤ x.f2.f1 ∧ x.f2.f1 ≤ 1000000) := by
  unfold errOf errOne at h
  split at h
  · omega
  · split at h
    · rename_i hk ht
      obtain ⟨h1, h2⟩ := ht
      simp only [termOk, Bool.and_eq_true, decide_eq_true_eq] at h1 h2
      omega
    · omega
theorem sat_iff {n : Int} (hn : n ≤ 12) (v : List Int) {x : S26} (h : errOf n x = 0) (i : Int) : (∀ a ∈ arcsX i x, pl v (toA a).s ≤ pl v (toA a).t + (toA a).c) ↔ holdsP v x := by
  obtain ⟨hk, h1, h2, h3, h4⟩ := err_parts h
  have w1 : wrap64 (x.f1.f0 + 1) = x.f1.f0 + 1 := w64 (by omega)
  have w2 : wrap64 (x.f2.f0 + 1) = x.f2.f0 + 1 := w64 (by omega)
  have w3 : wrap64 (x.f2.f1 - x.f1.f1) = x.f2.f1 - x.f1.f1 := w64 (by omega)
  have w4 : wrap64 (-(x.f2.f1 - x.f1.f1)) = -(x.f2.f1 - x.f1.f1) := w64 (by omega)
  have e1 := pl_eq v h1.1
  have e2 := pl_eq v h2.1
  have a1 : (pl v (toA (arc1 i x)).s ≤ pl v (toA (arc1 i x)).t + (toA (arc1 i x)).c) ↔ var0 v x.f1.f0 + x.f1.f1 ≤ var0 v x.f2.f0 + x.f2.f1 := by
    unfold toA arc1
    simp only
    rw [w1, w2, w3, e1, e2]
    omega
  have a2 : (pl v (toA (arc2 i x)).s ≤ pl v (toA (arc2 i x)).t + (toA (arc2 i x)).c) ↔ var0 v x.f2.f0 + x.f2.f1 ≤ var0 v x.f1.f0 + x.f1.f1 := by
    unfold toA arc2
    simp only
    rw [w1, w2, w3, w4, e1, e2]
    omega
  unfold arcsX holdsP
  by_cases k2 : x.f0 = 2
  · rw [if_pos k2]
    constructor
    · intro h9
      have b1 := a1.1 (h9 (arc1 i x) (by simp))
      have b2 := a2.1 (h9 (arc2 i x) (by simp))
      exact .inr ⟨k2, by omega⟩
    · intro h9 a ha
      have hh : var0 v x.f1.f0 + x.f1.f1 = var0 v x.f2.f0 + x.f2.f1 := by omega
      rcases List.mem_cons.1 ha with rfl | ha
      · exact a1.2 (by omega)
      · rw [List.mem_singleton.1 ha]; exact a2.2 (by omega)
  · rw [if_neg k2]
    constructor
    · intro h9
      exact .inl ⟨by omega, a1.1 (h9 (arc1 i x) (by simp))⟩
    · intro h9 a ha
      rw [List.mem_singleton.1 ha]
      exact a1.2 (by omega)
theorem sat_all {n : Int} (hn : n ≤ 12) (v : List Int) : ∀ (l : List S26) (i : Nat), (∀ x ∈ l, errOf n x = 0 ∧ holdsP v x) → Sat (pl v) ((arcsF i l).map toA)
  | [], i, _ => fun a ha => by simp [arcsF] at ha
  | x :: l, i, h => fun a ha => by
    rw [show arcsF i (x :: l) = arcsX i x ++ arcsF (i + 1) l from rfl, List.map_append] at ha
    rcases List.mem_append.1 ha with ha | ha
    · obtain ⟨b, hb, rfl⟩ := List.mem_map.1 ha
      exact (sat_iff hn v (h x (by simp)).1 i).2 (h x (by simp)).2 b hb
    · exact sat_all hn v l (i + 1) (fun y hy => h y (by simp [hy])) a ha
theorem rd_small {v : List Int} (h : ∀ y ∈ v, -21 < y ∧ y < 21) (i : Int) : -1099511627776 ≤ rd v i ∧ rd v i ≤ 1099511627776 := by
  unfold rd
  rw [List.getD_eq_getElem?_getD]
  cases hv : v[i.toNat]? with
  | none => simp
  | some y =>
    have := h y (List.mem_of_getElem? hv)
    simp only [Option.getD_some]
    omega
theorem true_l1 {v : List Int} (hvl : v.length ≤ 5) (hv : ∀ y ∈ v, -21 < y ∧ y < 21) (codes : List S44) (hc : codes.length ≤ 20) (c : S44) : ∀ (rest pre : List S44) (acc : List S26), codes = pre ++ rest → acc.length ≤ pre.length → (∀ x ∈ acc, errOf (v.length : Int) x = 0 ∧ holdsP v x) →
    Ev (fun q => scarfjointlaw03_DifferenceTrue.l1 q v acc codes (codes.length : Int) (pre.length : Int) c.f0 c.f1 c.f2 c.f3) true
  | [], pre, acc, h, ha, hx => by
    have hpl : pre.length = codes.length := by rw [h]; simp
    have hs := rd_small hv
    obtain ⟨r1, r2, r4, r5, e, g1, g2, g4, g5, g6⟩ := made_eq (k := (v.length : Int)) (by omega) (by omega) c.f0 c.f1 c.f2 c.f3
    have hv0 : errV (v.length : Int) acc = 0 := errV_mk (by omega) (by omega) (by omega) (fun x hx1 => (hx x hx1).1)
    have hex : errOf (v.length : Int) (⟨r1, ⟨r2, 0⟩, ⟨r4, r5⟩⟩ : S26) = 0 := err_zero g1 g2 g4 (by omega) (by omega)
    have hfe : Feas ((arcsF 0 acc).map toA) := ⟨pl v, sat_all (n := (v.length : Int)) (by omega) v acc 0 hx⟩
    have hS := solve_ev (v.length : Int) acc
    unfold solR at hS
    rw [if_pos hv0, if_pos hfe] at hS
    have hI := implies_ev (v.length : Int) acc (⟨r1, ⟨r2, 0⟩, ⟨r4, r5⟩⟩ : S26) (b := @decide (ImpX acc (⟨r1, ⟨r2, 0⟩, ⟨r4, r5⟩⟩ : S26)) (Classical.propDecidable _)) (@decide_eq_true_iff _ (Classical.propDecidable _))
    unfold impR at hI
    rw [if_pos hv0, if_pos hex] at hI
    refine Ev.step (f := fun q => (scarfjointref03_Made.f (v.length : Int) c.f0 c.f1 c.f2 c.f3).bind fun bt605 => ((difference_Solve.f q (v.length : Int) acc).bind fun bt611 => ((difference_Implies.f q (v.length : Int) acc bt605.1 bt605.2.1 bt605.2.2.1 bt605.2.2.2.1 bt605.2.2.2.2).bind fun bt615 => (if bt611.2 = 0 then (if bt615.2 = 0 then (if bt615.1 = true then ((difference_Holds.f q bt605.1 bt605.2.1 bt605.2.2.1 bt605.2.2.2.1 bt605.2.2.2.2 v).bind fun t617 => (some t617)) else (some true)) else (some false)) else (some false))))) (fun q => ?_) ?_
    · rw [scarfjointlaw03_DifferenceTrue.l1, if_neg (by omega)]
    · refine Ev.const_bind e ?_
      refine Ev.bind hS ?_
      refine Ev.bind hI ?_
      refine Ev.ite_pos rfl (Ev.ite_pos rfl ?_)
      by_cases hi : ImpX acc (⟨r1, ⟨r2, 0⟩, ⟨r4, r5⟩⟩ : S26)
      · have hp : holdsP v (⟨r1, ⟨r2, 0⟩, ⟨r4, r5⟩⟩ : S26) := (sat_iff (n := (v.length : Int)) (by omega) v hex 0).1 (fun a ha1 => hi a ha1 (pl v) (sat_all (n := (v.length : Int)) (by omega) v acc 0 hx))
        refine Ev.ite_pos (@decide_eq_true _ (Classical.propDecidable _) hi) ?_
        exact Ev.bind (holds_ev hs (x := (⟨r1, ⟨r2, 0⟩, ⟨r4, r5⟩⟩ : S26)) g2 g4 (by simp only; omega) (by simp only; omega) (b := true) ⟨fun _ => hp, fun _ => rfl⟩) (Ev.now true)
      · refine Ev.ite_neg (fun h9 => hi (@of_decide_eq_true _ (Classical.propDecidable _) h9)) (Ev.now true)
  | d :: rest, pre, acc, h, ha, hx => by
    have hlen : pre.length < codes.length := by rw [h]; simp
    have hw : wrap64 ((pre.length : Int) + 1) = ((pre ++ [d]).length : Int) := by rw [w64 (by omega)]; simp
    have hs := rd_small hv
    obtain ⟨r1, r2, r4, r5, e, g1, g2, g4, g5, g6⟩ := made_eq (k := (v.length : Int)) (by omega) (by omega) d.f0 d.f1 d.f2 d.f3
    have hex : errOf (v.length : Int) (⟨r1, ⟨r2, 0⟩, ⟨r4, r5⟩⟩ : S26) = 0 := err_zero g1 g2 g4 (by omega) (by omega)
    refine Ev.step (f := fun q => (scarfjointref03_Made.f (v.length : Int) d.f0 d.f1 d.f2 d.f3).bind fun bt595 => ((difference_Holds.f q bt595.1 bt595.2.1 bt595.2.2.1 bt595.2.2.2.1 bt595.2.2.2.2 v).bind fun t601 => (if t601 = true then (if acc.length < 3518437208883 then (scarfjointlaw03_DifferenceTrue.l1 q v (acc ++ [(⟨bt595.1, (⟨bt595.2.1, bt595.2.2.1⟩ : S24), (⟨bt595.2.2.2.1, bt595.2.2.2.2⟩ : S24)⟩ : S26)]) codes (codes.length : Int) ((pre ++ [d]).length : Int) c.f0 c.f1 c.f2 c.f3) else (none)) else (scarfjointlaw03_DifferenceTrue.l1 q v acc codes (codes.length : Int) ((pre ++ [d]).length : Int) c.f0 c.f1 c.f2 c.f3)))) (fun q => ?_) ?_
    · rw [scarfjointlaw03_DifferenceTrue.l1, if_pos (by omega), if_pos (by omega), if_pos (by omega), rdT44_at h, hw]
    · refine Ev.const_bind e ?_
      by_cases hp : holdsP v (⟨r1, ⟨r2, 0⟩, ⟨r4, r5⟩⟩ : S26)
      · refine Ev.bind (holds_ev hs (x := (⟨r1, ⟨r2, 0⟩, ⟨r4, r5⟩⟩ : S26)) g2 g4 (by simp only; omega) (by simp only; omega) (b := true) ⟨fun _ => hp, fun _ => rfl⟩) ?_
        refine Ev.ite_pos rfl (Ev.ite_pos (by omega) ?_)
        exact true_l1 hvl hv codes hc c rest (pre ++ [d]) (acc ++ [⟨r1, ⟨r2, 0⟩, ⟨r4, r5⟩⟩]) (by rw [h]; simp) (by simp; omega) (fun x hx1 => by
          rcases List.mem_append.1 hx1 with hx1 | hx1
          · exact hx x hx1
          · rw [List.mem_singleton.1 hx1]; exact ⟨hex, hp⟩)
      · refine Ev.bind (holds_ev hs (x := (⟨r1, ⟨r2, 0⟩, ⟨r4, r5⟩⟩ : S26)) g2 g4 (by simp only; omega) (by simp only; omega) (b := false) ⟨fun h9 => (by cases h9), fun h9 => absurd h9 hp⟩) ?_
        refine Ev.ite_neg (by simp) ?_
        exact true_l1 hvl hv codes hc c rest (pre ++ [d]) acc (by rw [h]; simp) (by simp; omega) hx
theorem true_l0 (vals : List Int) (hvl : vals.length ≤ 5) (codes : List S44) (hc : codes.length ≤ 20) (c : S44) : ∀ (rest pre acc : List Int), vals = pre ++ rest → acc.length = pre.length → (∀ y ∈ acc, -21 < y ∧ y < 21) →
    Ev (fun q => scarfjointlaw03_DifferenceTrue.l0 q codes acc vals (vals.length : Int) (pre.length : Int) c.f0 c.f1 c.f2 c.f3) true
  | [], pre, acc, h, ha, hy => by
    have hpl : pre.length = vals.length := by rw [h]; simp
    refine Ev.step (fun q => ?_) (true_l1 (v := acc) (by omega) hy codes hc c codes [] [] rfl (by simp) (fun x hx => by cases hx))
    rw [scarfjointlaw03_DifferenceTrue.l0, if_neg (by omega)]
    rfl
  | y :: rest, pre, acc, h, ha, hy => by
    have hlen : pre.length < vals.length := by rw [h]; simp
    have hw : wrap64 ((pre.length : Int) + 1) = ((pre ++ [y]).length : Int) := by rw [w64 (by omega)]; simp
    have h1 := Int.tmod_lt_of_pos (wrap64 (rd vals (pre.length : Int))) (b := 21) (by omega)
    have h2 := Int.lt_tmod_of_pos (wrap64 (rd vals (pre.length : Int))) (b := 21) (by omega)
    refine Ev.step (fun q => ?_) (true_l0 vals hvl codes hc c rest (pre ++ [y]) (acc ++ [Int.tmod (wrap64 (rd vals (pre.length : Int))) 21]) (by rw [h]; simp) (by simp [ha]) (fun z hz => by
      rcases List.mem_append.1 hz with hz | hz
      · exact hy z hz
      · rw [List.mem_singleton.1 hz]; omega))
    rw [scarfjointlaw03_DifferenceTrue.l0, if_pos (by omega), if_pos (by omega), if_pos (by omega), if_pos (by omega), hw]
theorem true_law (vals : List Int) (codes : List S44) (c : S44) : Ev (fun q => scarfjointlaw03_DifferenceTrue.f q vals codes c.f0 c.f1 c.f2 c.f3) true := by
  have hwake : Ev (fun q => scarfjointlaw03_DifferenceTrue.j0 q vals codes true c.f0 c.f1 c.f2 c.f3) true := Ev.step (f := fun q => (scarfjointlaw03_awake.f q).bind fun t => some t) (fun q => by rw [scarfjointlaw03_DifferenceTrue.j0, if_pos rfl]) awake_some
  unfold scarfjointlaw03_DifferenceTrue.f
  refine Ev.bind awake_ev ?_
  refine Ev.ite_pos rfl ?_
  by_cases hl : (vals.length : Int) > 5
  · exact Ev.ite_pos hl hwake
  · refine Ev.ite_neg hl ?_
    by_cases hr : (codes.length : Int) > 20
    · rw [decide_eq_true hr]; exact hwake
    · rw [decide_eq_false hr]
      refine Ev.step (fun q => ?_) (true_l0 vals (by omega) codes (by omega) c vals [] [] rfl rfl (fun y hy => by cases hy))
      rw [scarfjointlaw03_DifferenceTrue.j0, if_neg (by simp)]
      rfl
end Go.Proofs.Yteebkkdbkkibmaa.Pure
