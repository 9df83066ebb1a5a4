/- The example of the laws comes to true; valid tests have good arcs. Conditions: none. -/
import Derived.Test.YteebkkdbkkibmaaPr12
import Derived.Test.YteebkkdbkkibmaaPd
namespace Go.Proofs.Yteebkkdbkkibmaa.Pure
open Go.RowKit Go.Proofs.Yteebkkdbkkibmaa.Pr Go.Proofs.YteebkkdbkkibmaaW.PrintWords Go.Proofs.YteebkkdbkkibmaaW.PrintLast Go.Proofs.YteebkkdbkkibmaaW.PrintMore Go.Proofs.Yteebkkdbkkibmaa.Bf
set_option linter.unusedVariables false

theorem awake_ev : Ev (fun q => scarfjointlaw03_awake.f q) true := Ev.of scarfjointlaw03_awake.mono (k := 60) (by decide +kernel)

/-! ### Valid tests have good arcs -/
theorem arcsX_good {n : Int} (h0 : 0 ≤ n) (h12 : n ≤ 12) {x : S26} (h : errOf n x = 0) (i : Int) : good (n.toNat + 1) (arcsX i x) := by
  unfold errOf errOne at h
  split at h
  · omega
  · split at h
    · rename_i hk ht
      obtain ⟨h1, h2⟩ := ht
      simp only [termOk, Bool.and_eq_true, decide_eq_true_eq] at h1 h2
      have w1 : wrap64 (x.f1.f0 + 1) = x.f1.f0 + 1 := w64 (by omega)
      have w2 : wrap64 (x.f2.f0 + 1) = x.f2.f0 + 1 := w64 (by omega)
      have w3 : wrap64 (x.f2.f1 - x.f1.f1) = x.f2.f1 - x.f1.f1 := w64 (by omega)
      have w4 : wrap64 (-(x.f2.f1 - x.f1.f1)) = -(x.f2.f1 - x.f1.f1) := w64 (by omega)
      have g1 : goodA (n.toNat + 1) (arc1 i x) := by unfold goodA arc1; simp only; rw [w1, w2, w3]; omega
      have g2 : goodA (n.toNat + 1) (arc2 i x) := by unfold goodA arc2; simp only; rw [w1, w2, w3, w4]; omega
      unfold arcsX
      split
      · intro a ha
        rcases List.mem_cons.1 ha with rfl | ha
        · exact g1
        · rcases List.mem_cons.1 ha with rfl | ha
          · exact g2
          · cases ha
      · intro a ha
        rcases List.mem_cons.1 ha with rfl | ha
        · exact g1
        · cases ha
    · omega
theorem errL_zero {n : Int} : ∀ {l : List S26}, errL n l = 0 → ∀ x ∈ l, errOf n x = 0
  | [], _ => fun x hx => by cases hx
  | y :: l, h => by
    unfold errL at h
    split at h
    · rename_i h1
      intro x hx
      rcases List.mem_cons.1 hx with rfl | hx
      · exact h1
      · exact errL_zero h x hx
    · rename_i h1; exact absurd h h1
theorem arcsF_good {n : Int} (h0 : 0 ≤ n) (h12 : n ≤ 12) : ∀ (l : List S26) (i : Nat), (∀ x ∈ l, errOf n x = 0) → good (n.toNat + 1) (arcsF i l)
  | [], i, _ => fun a ha => by cases ha
  | x :: l, i, h => fun a ha => by
    rcases List.mem_append.1 ha with ha | ha
    · exact arcsX_good h0 h12 (h x (by simp)) _ a ha
    · exact arcsF_good h0 h12 l (i + 1) (fun y hy => h y (by simp [hy])) a ha
theorem errV_zero {n : Int} {l : List S26} (h : errV n l = 0) : 0 ≤ n ∧ n ≤ 12 ∧ l.length ≤ 40 ∧ ∀ x ∈ l, errOf n x = 0 := by
  unfold errV at h
  split at h
  · omega
  · split at h
    · omega
    · exact ⟨by omega, by omega, by omega, errL_zero h⟩

end Go.Proofs.Yteebkkdbkkibmaa.Pure
