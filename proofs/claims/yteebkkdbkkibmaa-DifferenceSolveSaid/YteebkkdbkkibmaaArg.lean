/- How the arguments of this seat's laws read: tests, uses, whole numbers and slices of these. Conditions: none. -/
import Derived.Test.YteebkkdbkkibmaaPr0
import Derived.Test.YteebkkdbkkibmaaRead
import Derived.KernelRfl
namespace Go.Proofs.Yteebkkdbkkibmaa.Read
open Go.RowKit Go.Proofs.YteebkkdbkkibmaaW.PrintWords Go.Proofs.Yteebkkdbkkibmaa.Pr
open Go.ChangeShapes Go.WideShapes Go.Deep
set_option linter.unusedVariables false
variable {H : Type} {enc : TypeId × Value → H} {w : World}
def wfI (n : Int) : Prop := (Lit.int .i64 n).wf = true
def wf24 (x : S24) : Prop := wfI x.f0 ∧ wfI x.f1
def wf26 (x : S26) : Prop := wfI x.f0 ∧ wf24 x.f1 ∧ wf24 x.f2
def wf55 (x : S55) : Prop := wfI x.f0 ∧ wfI x.f1
theorem rd3 : Reads H enc Try.prog w 3 (Kd.int .i64) wfI := reads_int Try.underlying3
theorem rd24 : Reads H enc Try.prog w 24 k24 wf24 := reads_struct2 S24.mk (fun _ _ => rfl) Try.underlying24 rfl rfl (by kernel_rfl) (by kernel_rfl) (by kernel_rfl) rd3 rd3
theorem rd26 : Reads H enc Try.prog w 26 k26 wf26 := reads_struct3 S26.mk (fun _ _ _ => rfl) Try.underlying26 rfl rfl rfl (by kernel_rfl) (by kernel_rfl) (by kernel_rfl) (by kernel_rfl) rd3 rd24 rd24
theorem rd22 : Reads H enc Try.prog w 22 (Kd.slice 26 k26) (fun xs => ∀ x ∈ xs, wf26 x) := reads_slice Try.underlying22 (by kernel_rfl) rd26
theorem rd55 : Reads H enc Try.prog w 55 k55 wf55 := reads_struct2 S55.mk (fun _ _ => rfl) Try.underlying55 rfl rfl (by kernel_rfl) (by kernel_rfl) (by kernel_rfl) rd3 rd3
theorem rd39 : Reads H enc Try.prog w 39 (Kd.slice 55 k55) (fun xs => ∀ x ∈ xs, wf55 x) := reads_slice Try.underlying39 (by kernel_rfl) rd55
theorem rd36 : Reads H enc Try.prog w 36 (Kd.slice 3 (Kd.int .i64)) (fun xs => ∀ x ∈ xs, wfI x) := reads_slice Try.underlying36 (by kernel_rfl) rd3

set_option maxRecDepth 100000 in
/-- A test, as an argument. -/
theorem arg26 {base : Nat} {spare : Nat → Bool} {held : Bool} {v : Value} {D : DataW H} {ps : List MemPlace} {r : Reach} {b : Nat} (hv : Value.okWide Try.prog w r b 26 v) (h : DataW.Trod enc Try.prog w base spare held 26 v D ps) :
    ∃ x : S26, v = .agg #[.int .i64 x.f0, .int .i64 x.f1.f0, .int .i64 x.f1.f1, .int .i64 x.f2.f0, .int .i64 x.f2.f1] ∧ wf26 x := by
  obtain ⟨cs, rfl, _⟩ := okWide_struct Try.underlying26 hv
  obtain ⟨fuel, hf⟩ := h
  obtain ⟨x, hK, hO⟩ := rd26 _ _ _ _ _ _ hf
  have := k26_open hK
  refine ⟨x, ?_, hO⟩
  congr 1
  exact Array.toList_inj.1 this
set_option maxRecDepth 100000 in
/-- A slice of tests. -/
theorem arg22 {base : Nat} {spare : Nat → Bool} {held : Bool} {v : Value} {D : DataW H} {ps : List MemPlace} {r : Reach} {b : Nat} (hv : Value.okWide Try.prog w r b 22 v) (h : DataW.Trod enc Try.prog w base spare held 22 v D ps) :
    ∃ A c xs, v = .slice A (List.length xs) c ∧ xs.length ≤ c ∧ Kd.C k26 w A xs.length xs ∧ ∀ x ∈ xs, wf26 x := by
  obtain ⟨a, len, cap, rfl⟩ := okWide_slice Try.underlying22 hv
  obtain ⟨A, c, xs, h1, h2, h3, h4⟩ := arg_slice Try.underlying22 h rd22
  exact ⟨A, c, xs, by simpa [Value.cells] using h1, h2, h3, h4⟩
set_option maxRecDepth 100000 in
theorem arg39 {base : Nat} {spare : Nat → Bool} {held : Bool} {v : Value} {D : DataW H} {ps : List MemPlace} {r : Reach} {b : Nat} (hv : Value.okWide Try.prog w r b 39 v) (h : DataW.Trod enc Try.prog w base spare held 39 v D ps) :
    ∃ A c xs, v = .slice A (List.length xs) c ∧ xs.length ≤ c ∧ Kd.C k55 w A xs.length xs ∧ ∀ x ∈ xs, wf55 x := by
  obtain ⟨a, len, cap, rfl⟩ := okWide_slice Try.underlying39 hv
  obtain ⟨A, c, xs, h1, h2, h3, h4⟩ := arg_slice Try.underlying39 h rd39
  exact ⟨A, c, xs, by simpa [Value.cells] using h1, h2, h3, h4⟩
set_option maxRecDepth 100000 in
theorem arg36 {base : Nat} {spare : Nat → Bool} {held : Bool} {v : Value} {D : DataW H} {ps : List MemPlace} {r : Reach} {b : Nat} (hv : Value.okWide Try.prog w r b 36 v) (h : DataW.Trod enc Try.prog w base spare held 36 v D ps) :
    ∃ A c xs, v = .slice A (List.length xs) c ∧ xs.length ≤ c ∧ Kd.C (Kd.int .i64) w A xs.length xs ∧ ∀ x ∈ xs, wfI x := by
  obtain ⟨a, len, cap, rfl⟩ := okWide_slice Try.underlying36 hv
  obtain ⟨A, c, xs, h1, h2, h3, h4⟩ := arg_slice Try.underlying36 h rd36
  exact ⟨A, c, xs, by simpa [Value.cells] using h1, h2, h3, h4⟩
end Go.Proofs.Yteebkkdbkkibmaa.Read
