/- The law CanonCompare: for every input the call returns true, and each argument reads as it did before. Conditions: none. -/
import Derived.Test.YtgmomcjnldahjaaRows
import Derived.WalkKit
import Derived.ProofKit
import Derived.OpenShut
import Derived.ShutString
import Derived.ChangeOld
import Derived.Below
import Derived.SizedLaws
import Derived.Test.YtgmomcjnldahjaaKCanonCompare0
import Derived.Test.YtgmomcjnldahjaaKCanonCompare1
import Derived.Test.YtgmomcjnldahjaaKCanonCompare2
import Derived.Test.YtgmomcjnldahjaaKCanonCompare3
import Derived.Test.YtgmomcjnldahjaaKCanonCompare4
import Derived.Test.YtgmomcjnldahjaaKCanonCompare5
import Derived.Test.YtgmomcjnldahjaaKCanonCompare6
import Derived.Test.YtgmomcjnldahjaaKCanonCompare7
import Derived.Test.YtgmomcjnldahjaaKCanonCompare8
namespace Go.Proofs.Ytgmomcjnldahjaa.canonCompare
open Go.ChangeShapes Go.WideShapes Go.ChangeAt Go.RowKit
set_option linter.unusedVariables false
theorem own : ownKnob Try.prog.godebug = none := by kernel_rfl
theorem laidOut : laidOutB Try.prog = true := by kernel_rfl
set_option maxRecDepth 100000 in
theorem lifted (os : Os) (started : os.Started) (H : Type) (enc : TypeId × Value → H) :
    ReturnsInHanded {} Try.checked os 8 .any (Rows.canonCompareSpec.pre6 enc Try.prog Try.f8 Rows.canonCompareRow.domain false) (Rows.canonCompareSpec.post enc Try.prog Try.f8 false true false false) := by
  refine returnsInHanded_of_change_sized (C := Try.checked) own started (by kernel_rfl) Try.func8
    (ChangeSpec.witness6 (enc := enc) (C := Try.checked) false ⟨#[], #[.agg #[.slice none 0 0, .slice none 0 0], .agg #[.slice none 0 0, .slice none 0 0]], []⟩ 8 (by kernel_rfl) (by kernel_rfl) (by kernel_rfl) (by kernel_rfl)) ?_
  intro W base args ds gs before hval0 hW hcnd hsz0 _
  have hval : ∀ (j : Nat) t v, Try.f8.params[j]? = some t → args[j]? = some v → Value.okWide Try.prog W .any base t v := hval0
  have hW' := hW
  obtain ⟨p, q, hA0, hV, rfl, hfz, hnd⟩ := hW
  have hA : DataW.TrodAll enc Try.prog W 0 (fun _ => true) true Try.f8.params.toList args.toList ds p := hA0
  rw [Try.params8] at hA hval
  obtain ⟨v0, vs0, d0, ds0, p0, q0, hargs, rfl, rfl, h0, r0⟩ := trodAll_cons hA
  obtain ⟨v1, vs1, d1, ds1, p1, q1, rfl, rfl, rfl, h1, r1⟩ := trodAll_cons r0
  obtain ⟨rfl, rfl, rfl⟩ := trodAll_nil r1
  obtain rfl : args = #[v0, v1] := by cases args; simp_all
  obtain ⟨rfl, rfl⟩ := trodVars_none hV
  have k0 := h0
  have lt0 : ∀ x ∈ p0, x.block < W.heap.size := by obtain ⟨m, hm⟩ := k0; exact DataW.trod_lt m _ _ _ hm
  obtain ⟨A0, c0, N0, B0, d0, L0, rfl, hc0, hr0, hd0, hs0, w0⟩ := Read.arg30 (hval 0 30 v0 rfl rfl) h0
  have k1 := h1
  have lt1 : ∀ x ∈ p1, x.block < W.heap.size := by obtain ⟨m, hm⟩ := k1; exact DataW.trod_lt m _ _ _ hm
  obtain ⟨A1, c1, N1, B1, d1, L1, rfl, hc1, hr1, hd1, hs1, w1⟩ := Read.arg30 (hval 1 30 v1 rfl rfl) h1
  clear hA0 hval0 hsz0
  refine Go.Calls.mono (Pr.lawCompare_calls hr0 hc0 hs0 hd0 hr1 hc1 hs1 hd1) fun e W' ⟨he, bel⟩ => ?_
  subst he
  exact ⟨_, rfl, _, _, _, [], _, [], hW', trodAll_mk1 (shut_bool Try.underlying4 _), (trodAll_cons_mk (Below.trod laidOut (by kernel_rfl) (of_decide_eq_true (by kernel_rfl)) k0 bel lt0) (trodAll_cons_mk (Below.trod laidOut (by kernel_rfl) (of_decide_eq_true (by kernel_rfl)) k1 bel lt1) trodAll_mk0)), rfl, bel.frame _, fun h => by cases h⟩
theorem over : Rows.canonCompareRow.holds Try.pinned (OpenSpec.ofChange Rows.canonCompareSpec) :=
  OpenClaim.holds_of_wide 8 Try.f8 rfl rfl rfl rfl rfl rfl rfl ⟨rfl, rfl, rfl, rfl, rfl⟩ rfl rfl rfl rfl rfl (by kernel_rfl) Try.func8 (by kernel_rfl)
    (of_decide_eq_true (by kernel_rfl)) (by unfold Func.isWrapper; first | (rw [if_pos (by decide +kernel)]; kernel_rfl) | (rw [if_neg (by decide +kernel)]; exact ⟨rfl, rfl⟩))
    (fun os started H enc _ => lifted os started H enc)
theorem proved : Rows.CanonCompareSaid := over
end Go.Proofs.Ytgmomcjnldahjaa.canonCompare
namespace Go.Proofs.Ytgmomcjnldahjaa
/-- The row, under a short name, for the claim. -/
theorem canonCompare_holds : Rows.CanonCompareSaid := canonCompare.proved
end Go.Proofs.Ytgmomcjnldahjaa
#print axioms Go.Proofs.Ytgmomcjnldahjaa.canonCompare_holds
