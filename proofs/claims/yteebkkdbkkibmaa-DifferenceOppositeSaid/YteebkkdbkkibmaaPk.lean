/- The law DifferenceOpposite over the printed functions: it comes to true. Conditions: the number of variables is no less than 0. -/
import Derived.Test.YteebkkdbkkibmaaQ3
import Derived.Test.YteebkkdbkkibmaaPf
import Derived.Test.YteebkkdbkkibmaaPi
namespace Go.Proofs.Yteebkkdbkkibmaa.Pure
open Go.RowKit Go.Proofs.Yteebkkdbkkibmaa.Pr Go.Proofs.YteebkkdbkkibmaaW.PrintWords Go.Proofs.YteebkkdbkkibmaaW.PrintLast Go.Proofs.YteebkkdbkkibmaaW.PrintMore Go.Proofs.Yteebkkdbkkibmaa.Bf
set_option linter.unusedVariables false

theorem opposite_law {n : Int} (hn : 0 ≤ n) (hn2 : n ≤ 255) (codes : List S44) (c : S44) : Ev (fun q => scarfjointlaw03_DifferenceOpposite.f q n codes c.f0 c.f1 c.f2 c.f3) true := by
  unfold scarfjointlaw03_DifferenceOpposite.f
  refine Ev.bind awake_ev ?_
  refine Ev.ite_pos rfl ?_
  by_cases hl : codes.length ≤ 20
  · obtain ⟨k, l, h0, h5, hlen, hx, hfew⟩ := few_ev hn hn2 codes hl
    have hv := errV_mk h0 (by omega) (by omega) hx
    obtain ⟨r1, r2, r4, r5, e, g1, g2, g4, g5, g6⟩ := made_eq h0 (by omega) c.f0 c.f1 c.f2 c.f3
    have hw5 : wrap64 (r5 + 1) = r5 + 1 := w64 (by omega)
    have hex : errOf k (⟨1, ⟨r2, 0⟩, ⟨r4, r5⟩⟩ : S26) = 0 := err_zero (.inl rfl) g2 g4 (by omega) (by omega)
    have heo : errOf k (⟨1, ⟨r4, r5 + 1⟩, ⟨r2, 0⟩⟩ : S26) = 0 := err_zero (.inl rfl) g4 g2 (by omega) (by omega)
    have hv2 : errV k (l ++ [(⟨1, ⟨r4, r5 + 1⟩, ⟨r2, 0⟩⟩ : S26)]) = 0 := errV_mk h0 (by omega) (by simp; omega) (fun x hx1 => by
      rcases List.mem_append.1 hx1 with hx1 | hx1
      · exact hx x hx1
      · rw [List.mem_singleton.1 hx1]; exact heo)
    have hI := implies_ev k l (⟨1, ⟨r2, 0⟩, ⟨r4, r5⟩⟩ : S26) (b := @decide (ImpX l (⟨1, ⟨r2, 0⟩, ⟨r4, r5⟩⟩ : S26)) (Classical.propDecidable _)) (@decide_eq_true_iff _ (Classical.propDecidable _))
    unfold impR at hI
    rw [if_pos hv, if_pos hex] at hI
    have hS := solve_ev k (l ++ [(⟨1, ⟨r4, r5 + 1⟩, ⟨r2, 0⟩⟩ : S26)])
    unfold solR at hS
    rw [if_pos hv2] at hS
    have hiff : ImpX l (⟨1, ⟨r2, 0⟩, ⟨r4, r5⟩⟩ : S26) ↔ ¬ Feas ((arcsF 0 (l ++ [(⟨1, ⟨r4, r5 + 1⟩, ⟨r2, 0⟩⟩ : S26)])).map toA) := by
      have w1 : wrap64 (r2 + 1) = r2 + 1 := w64 (by omega)
      have w2 : wrap64 (r4 + 1) = r4 + 1 := w64 (by omega)
      have w3 : wrap64 (r5 - 0) = r5 - 0 := w64 (by omega)
      have w4 : wrap64 (0 - (r5 + 1)) = 0 - (r5 + 1) := w64 (by omega)
      have ha : arcsX 0 (⟨1, ⟨r2, 0⟩, ⟨r4, r5⟩⟩ : S26) = [arc1 0 (⟨1, ⟨r2, 0⟩, ⟨r4, r5⟩⟩ : S26)] := by unfold arcsX; rw [if_neg (show ¬ ((1 : Int) = 2) by decide)]
      have h1 : ImpX l (⟨1, ⟨r2, 0⟩, ⟨r4, r5⟩⟩ : S26) ↔ Imp ((arcsF 0 l).map toA) (toA (arc1 0 (⟨1, ⟨r2, 0⟩, ⟨r4, r5⟩⟩ : S26))) := by
        unfold ImpX
        rw [ha]
        exact ⟨fun h => h _ (by simp), fun h a hm => by rw [List.mem_singleton.1 hm]; exact h⟩
      rw [h1, imp_infeas, arcsF_app]
      have h2 : arcsF (0 + l.length) [(⟨1, ⟨r4, r5 + 1⟩, ⟨r2, 0⟩⟩ : S26)] = [arc1 ((0 + l.length : Nat) : Int) (⟨1, ⟨r4, r5 + 1⟩, ⟨r2, 0⟩⟩ : S26)] := by
        show arcsX _ _ ++ [] = _
        unfold arcsX
        rw [if_neg (show ¬ ((1 : Int) = 2) by decide), List.append_nil]
      rw [h2, List.map_append]
      have h3 : [(arc1 ((0 + l.length : Nat) : Int) (⟨1, ⟨r4, r5 + 1⟩, ⟨r2, 0⟩⟩ : S26))].map toA = [⟨(toA (arc1 0 (⟨1, ⟨r2, 0⟩, ⟨r4, r5⟩⟩ : S26))).t, (toA (arc1 0 (⟨1, ⟨r2, 0⟩, ⟨r4, r5⟩⟩ : S26))).s, -(toA (arc1 0 (⟨1, ⟨r2, 0⟩, ⟨r4, r5⟩⟩ : S26))).c - 1⟩] := by
        simp only [List.map_cons, List.map_nil, toA, arc1]
        rw [w1, w2, w3, w4]
        congr 2
        omega
      rw [h3]
    refine Ev.step (f := fun q => (scarfjointlaw03_few.f q n codes).bind fun bt386 => ((scarfjointref03_Made.f bt386.1 c.f0 c.f1 c.f2 c.f3).bind fun bt390 => ((api_Test_14.f bt386.2).bind fun t396 => ((some (([(⟨1, (⟨bt390.2.2.2.1, wrap64 (bt390.2.2.2.2 + 1)⟩ : S24), (⟨bt390.2.1, bt390.2.2.1⟩ : S24)⟩ : S26)] : List (S26)) : List (S26))).bind fun y399 => (if t396.length + y399.length < 3518437208883 then ((difference_Implies.f q bt386.1 bt386.2 1 bt390.2.1 bt390.2.2.1 bt390.2.2.2.1 bt390.2.2.2.2).bind fun bt405 => ((difference_Solve.f q bt386.1 (t396 ++ y399)).bind fun bt407 => (if bt405.2 = 0 then (some (bt405.1 == (bt407.2 == 10))) else (some false)))) else (none)))))) (fun q => ?_) ?_
    · rw [scarfjointlaw03_DifferenceOpposite.j0, if_neg (by simp; omega)]
    · refine Ev.bind hfew ?_
      refine Ev.const_bind e ?_
      refine Ev.const_bind (clone_test (by simp only; omega)) ?_
      refine Ev.some_bind ?_
      refine Ev.ite_pos (by simp; omega) ?_
      refine Ev.bind hI ?_
      simp only [hw5]
      refine Ev.bind hS ?_
      refine Ev.ite_pos (by trivial) ?_
      by_cases hf : Feas ((arcsF 0 (l ++ [(⟨1, ⟨r4, r5 + 1⟩, ⟨r2, 0⟩⟩ : S26)])).map toA)
      · rw [if_pos hf]
        have hni : ¬ ImpX l (⟨1, ⟨r2, 0⟩, ⟨r4, r5⟩⟩ : S26) := fun h => hiff.1 h hf
        simpa [hni] using Ev.now true
      · rw [if_neg hf]
        have hi := hiff.2 hf
        simpa [hi] using Ev.now true
  · refine Ev.step (f := fun q => (scarfjointlaw03_awake.f q).bind fun t => some t) (fun q => ?_) awake_some
    rw [scarfjointlaw03_DifferenceOpposite.j0, if_pos (by simp; omega)]
end Go.Proofs.Yteebkkdbkkibmaa.Pure
