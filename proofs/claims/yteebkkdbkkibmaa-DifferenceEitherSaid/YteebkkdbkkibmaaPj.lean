/- The law DifferenceEither over the printed functions: it comes to true. Conditions: the number of variables is no less than 0. -/
import Derived.Test.YteebkkdbkkibmaaQ2
import Derived.Test.YteebkkdbkkibmaaPf
import Derived.Test.YteebkkdbkkibmaaPi
namespace Go.Proofs.Yteebkkdbkkibmaa.Pure
open Go.RowKit Go.Proofs.Yteebkkdbkkibmaa.Pr Go.Proofs.YteebkkdbkkibmaaW.PrintWords Go.Proofs.YteebkkdbkkibmaaW.PrintLast Go.Proofs.YteebkkdbkkibmaaW.PrintMore Go.Proofs.Yteebkkdbkkibmaa.Bf
set_option linter.unusedVariables false

theorem either_law {n : Int} (hn : 0 ≤ n) (hn2 : n ≤ 255) (codes : List S44) : Ev (fun q => scarfjointlaw03_DifferenceEither.f q n codes) true := by
  unfold scarfjointlaw03_DifferenceEither.f
  refine Ev.bind awake_ev ?_
  refine Ev.ite_pos rfl ?_
  by_cases hl : codes.length ≤ 20
  · obtain ⟨k, l, h0, h5, hlen, hx, hfew⟩ := few_ev hn hn2 codes hl
    have hv := errV_mk h0 (by omega) (by omega) hx
    obtain ⟨R, hR, _, _⟩ := refute_ev k l
    have hS := solve_ev k l
    unfold solR at hS
    rw [if_pos hv] at hS
    rw [if_pos hv, if_pos hv] at hR
    refine Ev.step (f := fun q => (scarfjointlaw03_few.f q n codes).bind fun bt371 => ((difference_Solve.f q bt371.1 bt371.2).bind fun bt375 => ((difference_Refute.f q bt371.1 bt371.2).bind fun bt379 => (if bt375.2 = 0 then (if bt379.2 = 10 then (some true) else (if bt375.2 = 10 then (some (bt379.2 == 0)) else (some false))) else (if bt375.2 = 10 then (some (bt379.2 == 0)) else (some false)))))) (fun q => ?_) ?_
    · rw [scarfjointlaw03_DifferenceEither.j0, if_neg (by simp; omega)]
    · refine Ev.bind hfew ?_
      refine Ev.bind hS ?_
      refine Ev.bind hR ?_
      by_cases hf : Feas ((arcsF 0 l).map toA)
      · rw [if_pos hf, if_pos hf]
        exact Ev.ite_pos rfl (Ev.ite_pos rfl (Ev.now _))
      · rw [if_neg hf, if_neg hf]
        exact Ev.ite_neg (by decide) (Ev.ite_pos rfl (Ev.now _))
  · refine Ev.step (f := fun q => (scarfjointlaw03_awake.f q).bind fun t => some t) (fun q => ?_) awake_some
    rw [scarfjointlaw03_DifferenceEither.j0, if_pos (by simp; omega)]

end Go.Proofs.Yteebkkdbkkibmaa.Pure
