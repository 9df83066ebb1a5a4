/- How the arguments of the laws over codes read: arrays of four numbers, and slices of these. Conditions: none. -/
import Derived.Test.YteebkkdbkkibmaaQ1
import Derived.Test.YteebkkdbkkibmaaRead
import Derived.KernelRfl
namespace Go.Proofs.Yteebkkdbkkibmaa.Read
open Go.RowKit Go.Proofs.YteebkkdbkkibmaaW.PrintWords Go.Proofs.Yteebkkdbkkibmaa.Pr
open Go.ChangeShapes Go.WideShapes Go.Deep
set_option linter.unusedVariables false
variable {H : Type} {enc : TypeId × Value → H} {w : World}
def wfB (n : Int) : Prop := (Lit.int .i8 n).wf = true
def wf44 (x : S44) : Prop := wfB x.f0 ∧ wfB x.f1 ∧ wfB x.f2 ∧ wfB x.f3
theorem rd43 : Reads H enc Try.prog w 43 (Kd.int .i8) wfB := reads_int Try.underlying43
set_option maxRecDepth 100000 in
theorem rd44 : Reads H enc Try.prog w 44 k44 wf44 := by
  intro base spare held fuel cs x h
  obtain ⟨xs, m, _, _, hl, hxl, hi⟩ := DataW.trod_array Try.underlying44 h
  have c43 : Try.prog.cellsOf 43 = 1 := by kernel_rfl
  have c44 : Try.prog.cellsOf 44 = 4 := by kernel_rfl
  rw [c44] at hl
  obtain ⟨c0, c1, c2, c3, rfl⟩ : ∃ c0 c1 c2 c3, cs = [c0, c1, c2, c3] := by
    match cs, hl with
    | [a, b, c, d], _ => exact ⟨a, b, c, d, rfl⟩
  have key : ∀ i, i < 4 → ∃ n, (([c0, c1, c2, c3].drop i).take 1) = [.int .i8 n] ∧ wfB n := by
    intro i h4
    have h0 := hi i h4
    rw [c43, Nat.mul_one, List.getElem?_eq_getElem (by omega)] at h0
    obtain ⟨n, hn, hw⟩ := rd43 _ _ _ _ _ _ h0
    exact ⟨n, hn, hw⟩
  obtain ⟨n0, e0, w0⟩ := key 0 (by omega)
  obtain ⟨n1, e1, w1⟩ := key 1 (by omega)
  obtain ⟨n2, e2, w2⟩ := key 2 (by omega)
  obtain ⟨n3, e3, w3⟩ := key 3 (by omega)
  simp at e0 e1 e2 e3
  subst e0 e1 e2 e3
  exact ⟨⟨n0, n1, n2, n3⟩, k44_mk w ⟨n0, n1, n2, n3⟩, w0, w1, w2, w3⟩
theorem rd33 : Reads H enc Try.prog w 33 (Kd.slice 44 k44) (fun xs => ∀ x ∈ xs, wf44 x) := reads_slice Try.underlying33 (by kernel_rfl) rd44
set_option maxRecDepth 100000 in
/-- A code, as an argument. -/
theorem arg44 {base : Nat} {spare : Nat → Bool} {held : Bool} {v : Value} {D : DataW H} {ps : List MemPlace} {r : Reach} {b : Nat} (hv : Value.okWide Try.prog w r b 44 v) (h : DataW.Trod enc Try.prog w base spare held 44 v D ps) :
    ∃ x : S44, v = .agg #[.int .i8 x.f0, .int .i8 x.f1, .int .i8 x.f2, .int .i8 x.f3] ∧ wf44 x := by
  obtain ⟨cs, rfl⟩ : ∃ cs, v = .agg cs := by
    simp only [Value.okWide, Try.underlying44] at hv
    obtain ⟨cs, h1, _⟩ := hv
    exact ⟨cs, h1⟩
  obtain ⟨fuel, hf⟩ := h
  obtain ⟨x, hK, hO⟩ := rd44 _ _ _ _ _ _ hf
  have := k44_open hK
  refine ⟨x, ?_, hO⟩
  congr 1
  exact Array.toList_inj.1 this
set_option maxRecDepth 100000 in
/-- A slice of codes. -/
theorem arg33 {base : Nat} {spare : Nat → Bool} {held : Bool} {v : Value} {D : DataW H} {ps : List MemPlace} {r : Reach} {b : Nat} (hv : Value.okWide Try.prog w r b 33 v) (h : DataW.Trod enc Try.prog w base spare held 33 v D ps) :
    ∃ A c xs, v = .slice A (List.length xs) c ∧ xs.length ≤ c ∧ Kd.C k44 w A xs.length xs ∧ ∀ x ∈ xs, wf44 x := by
  obtain ⟨a, len, cap, rfl⟩ := okWide_slice Try.underlying33 hv
  obtain ⟨A, c, xs, h1, h2, h3, h4⟩ := arg_slice Try.underlying33 h rd33
  exact ⟨A, c, xs, by simpa [Value.cells] using h1, h2, h3, h4⟩
theorem u8_le {n : Int} (h : (Lit.int .u8 n).wf = true) : 0 ≤ n ∧ n ≤ 255 := by
  simp [Lit.wf, IntKind.min, IntKind.max, IntKind.signed, IntKind.bits] at h
  omega
end Go.Proofs.Yteebkkdbkkibmaa.Read
