/- The law DifferenceImplies over the printed functions: it comes to true. Conditions: none. -/
import Derived.Test.YteebkkdbkkibmaaPr19
import Derived.Test.YteebkkdbkkibmaaPe
namespace Go.Proofs.Yteebkkdbkkibmaa.Pure
open Go.RowKit Go.Proofs.Yteebkkdbkkibmaa.Pr Go.Proofs.YteebkkdbkkibmaaW.PrintWords Go.Proofs.YteebkkdbkkibmaaW.PrintLast Go.Proofs.YteebkkdbkkibmaaW.PrintMore Go.Proofs.Yteebkkdbkkibmaa.Bf
set_option linter.unusedVariables false

theorem awake_some : Ev (fun q => (scarfjointlaw03_awake.f q).bind fun t => some t) true := Ev.bind awake_ev (Ev.now true)
theorem clone_test {l : List S26} (hl : l.length ≤ 45) : api_Test_14.f l = some l := by
  unfold api_Test_14.f
  simp only [Option.bind_some, List.length_nil, List.nil_append]
  rw [if_pos (by omega)]
theorem implies_law (n : Int) (l : List S26) (x : S26) : Ev (fun q => scarfjointlaw03_DifferenceImplies.f q n l x.f0 x.f1.f0 x.f1.f1 x.f2.f0 x.f2.f1) true := by
  unfold scarfjointlaw03_DifferenceImplies.f
  refine Ev.bind awake_ev ?_
  refine Ev.ite_pos rfl ?_
  by_cases hl : l.length ≤ 45
  · refine Ev.step (f := fun q => (api_Test_14.f l).bind fun t347 => ((difference_Implies.f q n t347 x.f0 x.f1.f0 x.f1.f1 x.f2.f0 x.f2.f1).bind fun bt350 => ((scarfjointref03_Implies.f q n l x.f0 x.f1.f0 x.f1.f1 x.f2.f0 x.f2.f1).bind fun bt352 => (if (bt350.1 == bt352.1) = true then (some (bt350.2 == bt352.2)) else (some false))))) (fun q => ?_) ?_
    · rw [scarfjointlaw03_DifferenceImplies.j0, if_neg (by simp; omega)]
    · refine Ev.const_bind (clone_test hl) ?_
      have hb : (@decide (ImpX l x) (Classical.propDecidable _)) = true ↔ ImpX l x := @decide_eq_true_iff _ (Classical.propDecidable _)
      refine Ev.bind (implies_ev n l x hb) ?_
      refine Ev.bind (Implies_ev n l x hb) ?_
      refine Ev.ite_pos (by simp) ?_
      simpa using Ev.now true
  · refine Ev.step (f := fun q => (scarfjointlaw03_awake.f q).bind fun t => some t) (fun q => ?_) awake_some
    rw [scarfjointlaw03_DifferenceImplies.j0, if_pos (by simp; omega)]
end Go.Proofs.Yteebkkdbkkibmaa.Pure
