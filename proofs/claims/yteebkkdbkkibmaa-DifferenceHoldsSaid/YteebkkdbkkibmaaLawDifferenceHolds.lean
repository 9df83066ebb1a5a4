/- The law DifferenceHolds: for every input the call returns true, and each argument reads as it did before. Conditions: none. -/
import Derived.Test.YteebkkdbkkibmaaRows
import Derived.Test.YteebkkdbkkibmaaPvR
import Derived.Test.YteebkkdbkkibmaaWWords
import Derived.Test.YteebkkdbkkibmaaPr0
import Derived.WalkKit
import Derived.ProofKit
import Derived.OpenShut
import Derived.ShutString
import Derived.ChangeOld
import Derived.Below
import Derived.SizedLaws
import Derived.Deep.Slices
import Derived.ChangeSame
import Derived.Deep.Strs
import Derived.KernelRfl
namespace Go.Proofs.Yteebkkdbkkibmaa.Read
open Go.RowKit Go.Proofs.YteebkkdbkkibmaaW.PrintWords
open Go.ChangeShapes Go.WideShapes Go.Deep
set_option linter.unusedVariables false

/-- Whatever reads as a datum of type t is told by d, and has Ok. -/
def Reads {α : Type} (H : Type) (enc : TypeId × Value → H) (P : Program) (w : World) (t : TypeId) (d : Kd α) (Ok : α → Prop) : Prop :=
  ∀ (base : Nat) (spare : Nat → Bool) (held : Bool) (fuel : Nat) (cs : List Value) (x : DataW H × List MemPlace), DataW.trod enc P w base spare held fuel t cs = some x → ∃ v, d.K w v cs ∧ Ok v

section
variable {H : Type} {enc : TypeId × Value → H} {P : Program} {w : World}

theorem reads_int {t : TypeId} {k : IntKind} (ht : P.underlying t = some (.int k)) : Reads H enc P w t (Kd.int k) (fun n => (Lit.int k n).wf = true) := by
  intro base spare held fuel cs x h
  obtain ⟨n, rfl, _, hw⟩ := DataW.trod_int ht h
  exact ⟨n, rfl, hw⟩

theorem pick {α : Type} {Q : Nat → α → Prop} : ∀ n, (∀ i, i < n → ∃ v, Q i v) → ∃ xs : List α, xs.length = n ∧ ∀ j p, xs[j]? = some p → Q j p
  | 0, _ => ⟨[], rfl, fun j p h => by simp at h⟩
  | n + 1, h => by
    obtain ⟨xs, hl, hq⟩ := pick n (fun i hi => h i (by omega))
    obtain ⟨v, hv⟩ := h n (by omega)
    refine ⟨xs ++ [v], by simp [hl], fun j p hj => ?_⟩
    rw [List.getElem?_append] at hj
    split at hj
    · exact hq j p hj
    · rename_i hge
      have : j - xs.length = 0 := by
        have := (List.getElem?_eq_some_iff.1 hj).1
        simp at this
        omega
      rw [this] at hj
      have hjn : j = n := by omega
      subst hjn
      exact Option.some.inj hj ▸ hv

theorem reads_slice {α : Type} {t e : TypeId} {d : Kd α} {Ok : α → Prop} (ht : P.underlying t = some (.slice e)) (hsz : P.cellsOf e = d.sz) (he : Reads H enc P w e d Ok) :
    Reads H enc P w t (Kd.slice e d) (fun xs => ∀ y ∈ xs, Ok y) := by
  intro base spare held fuel cs x h
  rcases open_slice ht h with ⟨rfl, _⟩ | ⟨a, len, cap, m, n, D, Pl, rfl, hb, hl, hm, hmm, hx, hi⟩
  · exact ⟨[], ⟨none, 0, rfl, Nat.le_refl _, Kd.C_nil d w⟩, fun y hy => by cases hy⟩
  · have hlm : len ≤ m := by rw [hmm]; split <;> omega
    obtain ⟨xs, hxl, hxs⟩ := pick (Q := fun i v => Ok v ∧ ∃ cs', cs'.length = d.sz ∧ d.K w v cs' ∧ ∀ j u, cs'[j]? = some u → w.cell? (a.add (i * d.sz + j)) = some u) len (fun i hlt => by
      obtain ⟨cs', hc, ht'⟩ := hi i (by omega)
      obtain ⟨v, hK, hO⟩ := he _ _ _ _ _ _ ht'
      obtain ⟨_, hcl, hat⟩ := World.cells?_some hc
      refine ⟨v, hO, cs', by rw [hcl, hsz], hK, fun j u hu => ?_⟩
      have hj : j < cs'.length := (List.getElem?_eq_some_iff.1 hu).1
      have := hat j (by omega)
      rw [← Go.Deep.add_add, ← hsz, this, hu])
    refine ⟨xs, ⟨some a, cap, by rw [hxl], by omega, rfl, by unfold maxLen at hm; omega, fun _ => ⟨a, rfl, fun j p hj => ?_⟩⟩, fun y hy => ?_⟩
    · obtain ⟨_, cs', h1, h2, h3⟩ := hxs j p hj
      exact ⟨cs', h1, h2, h3⟩
    · obtain ⟨j, hj⟩ := List.mem_iff_getElem?.1 hy
      exact (hxs j y hj).1

theorem cut2 {cs : List Value} {a b : Nat} (h : cs.length = a + b) : cs = (cs.drop 0).take a ++ (cs.drop a).take b := by
  rw [List.drop_zero, List.take_of_length_le (l := cs.drop a) (by rw [List.length_drop]; omega), List.take_append_drop]
theorem cut3 {cs : List Value} {a b c : Nat} (h : cs.length = a + b + c) : cs = (cs.drop 0).take a ++ ((cs.drop a).take b ++ (cs.drop (a + b)).take c) := by
  rw [List.take_of_length_le (l := cs.drop (a + b)) (by rw [List.length_drop]; omega), ← List.drop_drop, List.take_append_drop, List.drop_zero, List.take_append_drop]

/-- A struct of two fields. -/
theorem reads_struct2 {α β γ : Type} {t : TypeId} {f0 f1 : Field} {a : Kd α} {b : Kd β} {Oa : α → Prop} {Ob : β → Prop} {g : γ → α × β} (mk : α → β → γ) (hg : ∀ x y, g (mk x y) = (x, y)) (ht : P.underlying t = some (.struct #[f0, f1]))
    (o0 : f0.offset = 0) (o1 : f1.offset = a.sz) (c0 : P.cellsOf f0.type = a.sz) (c1 : P.cellsOf f1.type = b.sz) (ct : P.cellsOf t = a.sz + b.sz)
    (ha : Reads H enc P w f0.type a Oa) (hb : Reads H enc P w f1.type b Ob) : Reads H enc P w t (Kd.iso (Kd.pair a b) g) (fun z => Oa (g z).1 ∧ Ob (g z).2) := by
  intro base spare held fuel cs x h
  obtain ⟨y0, y1, n, _, hl, h0, h1⟩ := trod_struct2 ht h
  rw [o0, c0] at h0
  rw [o1, c1] at h1
  obtain ⟨x, hx, hOx⟩ := ha _ _ _ _ _ _ h0
  obtain ⟨y, hy, hOy⟩ := hb _ _ _ _ _ _ h1
  refine ⟨mk x y, ?_, by simp only [hg]; exact ⟨hOx, hOy⟩⟩
  show (Kd.pair a b).K w (g (mk x y)) cs
  rw [hg]
  exact ⟨_, _, cut2 (hl.trans ct), hx, hy⟩
theorem reads_struct3 {α β δ γ : Type} {t : TypeId} {f0 f1 f2 : Field} {a : Kd α} {b : Kd β} {c : Kd δ} {Oa : α → Prop} {Ob : β → Prop} {Oc : δ → Prop} {g : γ → α × β × δ} (mk : α → β → δ → γ) (hg : ∀ x y z, g (mk x y z) = (x, y, z)) (ht : P.underlying t = some (.struct #[f0, f1, f2]))
    (o0 : f0.offset = 0) (o1 : f1.offset = a.sz) (o2 : f2.offset = a.sz + b.sz) (c0 : P.cellsOf f0.type = a.sz) (c1 : P.cellsOf f1.type = b.sz) (c2 : P.cellsOf f2.type = c.sz) (ct : P.cellsOf t = a.sz + b.sz + c.sz)
    (ha : Reads H enc P w f0.type a Oa) (hb : Reads H enc P w f1.type b Ob) (hc : Reads H enc P w f2.type c Oc) : Reads H enc P w t (Kd.iso (Kd.pair a (Kd.pair b c)) g) (fun z => Oa (g z).1 ∧ Ob (g z).2.1 ∧ Oc (g z).2.2) := by
  intro base spare held fuel cs x h
  obtain ⟨y0, y1, y2, n, _, hl, h0, h1, h2⟩ := trod_struct3 ht h
  rw [o0, c0] at h0
  rw [o1, c1] at h1
  rw [o2, c2] at h2
  obtain ⟨x, hx, hOx⟩ := ha _ _ _ _ _ _ h0
  obtain ⟨y, hy, hOy⟩ := hb _ _ _ _ _ _ h1
  obtain ⟨z, hz, hOz⟩ := hc _ _ _ _ _ _ h2
  refine ⟨mk x y z, ?_, by simp only [hg]; exact ⟨hOx, hOy, hOz⟩⟩
  show (Kd.pair a (Kd.pair b c)).K w (g (mk x y z)) cs
  rw [hg]
  exact ⟨_, _, cut3 (hl.trans ct), hx, _, _, rfl, hy, hz⟩

/-- An argument that is a slice. -/
theorem arg_slice {α : Type} {t e : TypeId} {d : Kd α} {Ok : List α → Prop} {base : Nat} {spare : Nat → Bool} {held : Bool} {v : Value} {D : DataW H} {ps : List MemPlace} (ht : P.underlying t = some (.slice e)) (h : DataW.Trod enc P w base spare held t v D ps)
    (hr : Reads H enc P w t (Kd.slice e d) Ok) : ∃ A c xs, v.cells.toList = [.slice A (List.length xs) c] ∧ xs.length ≤ c ∧ d.C w A xs.length xs ∧ Ok xs := by
  obtain ⟨fuel, hf⟩ := h
  obtain ⟨xs, ⟨A, c, h1, h2, h3⟩, hO⟩ := hr _ _ _ _ _ _ hf
  exact ⟨A, c, xs, h1, h2, h3, hO⟩
end
end Go.Proofs.Yteebkkdbkkibmaa.Read
namespace Go.Proofs.Yteebkkdbkkibmaa.Read
open Go.RowKit Go.Proofs.YteebkkdbkkibmaaW.PrintWords Go.Proofs.Yteebkkdbkkibmaa.Pr
open Go.ChangeShapes Go.WideShapes Go.Deep
set_option linter.unusedVariables false
variable {H : Type} {enc : TypeId × Value → H} {w : World}
def wfI (n : Int) : Prop := (Lit.int .i64 n).wf = true
def wf24 (x : S24) : Prop := wfI x.f0 ∧ wfI x.f1
def wf26 (x : S26) : Prop := wfI x.f0 ∧ wf24 x.f1 ∧ wf24 x.f2
def wf55 (x : S55) : Prop := wfI x.f0 ∧ wfI x.f1
theorem rd3 : Reads H enc Try.prog w 3 (Kd.int .i64) wfI := reads_int Try.underlying3
theorem rd24 : Reads H enc Try.prog w 24 k24 wf24 := reads_struct2 S24.mk (fun _ _ => rfl) Try.underlying24 rfl rfl (by kernel_rfl) (by kernel_rfl) (by kernel_rfl) rd3 rd3
theorem rd26 : Reads H enc Try.prog w 26 k26 wf26 := reads_struct3 S26.mk (fun _ _ _ => rfl) Try.underlying26 rfl rfl rfl (by kernel_rfl) (by kernel_rfl) (by kernel_rfl) (by kernel_rfl) rd3 rd24 rd24
theorem rd22 : Reads H enc Try.prog w 22 (Kd.slice 26 k26) (fun xs => ∀ x ∈ xs, wf26 x) := reads_slice Try.underlying22 (by kernel_rfl) rd26
theorem rd55 : Reads H enc Try.prog w 55 k55 wf55 := reads_struct2 S55.mk (fun _ _ => rfl) Try.underlying55 rfl rfl (by kernel_rfl) (by kernel_rfl) (by kernel_rfl) rd3 rd3
theorem rd39 : Reads H enc Try.prog w 39 (Kd.slice 55 k55) (fun xs => ∀ x ∈ xs, wf55 x) := reads_slice Try.underlying39 (by kernel_rfl) rd55
theorem rd36 : Reads H enc Try.prog w 36 (Kd.slice 3 (Kd.int .i64)) (fun xs => ∀ x ∈ xs, wfI x) := reads_slice Try.underlying36 (by kernel_rfl) rd3

set_option maxRecDepth 100000 in
/-- A test, as an argument. -/
theorem arg26 {base : Nat} {spare : Nat → Bool} {held : Bool} {v : Value} {D : DataW H} {ps : List MemPlace} {r : Reach} {b : Nat} (hv : Value.okWide Try.prog w r b 26 v) (h : DataW.Trod enc Try.prog w base spare held 26 v D ps) :
    ∃ x : S26, v = .agg #[.int .i64 x.f0, .int .i64 x.f1.f0, .int .i64 x.f1.f1, .int .i64 x.f2.f0, .int .i64 x.f2.f1] ∧ wf26 x := by
  obtain ⟨cs, rfl, _⟩ := okWide_struct Try.underlying26 hv
  obtain ⟨fuel, hf⟩ := h
  obtain ⟨x, hK, hO⟩ := rd26 _ _ _ _ _ _ hf
  have := k26_open hK
  refine ⟨x, ?_, hO⟩
  congr 1
  exact Array.toList_inj.1 this
set_option maxRecDepth 100000 in
/-- A slice of tests. -/
theorem arg22 {base : Nat} {spare : Nat → Bool} {held : Bool} {v : Value} {D : DataW H} {ps : List MemPlace} {r : Reach} {b : Nat} (hv : Value.okWide Try.prog w r b 22 v) (h : DataW.Trod enc Try.prog w base spare held 22 v D ps) :
    ∃ A c xs, v = .slice A (List.length xs) c ∧ xs.length ≤ c ∧ Kd.C k26 w A xs.length xs ∧ ∀ x ∈ xs, wf26 x := by
  obtain ⟨a, len, cap, rfl⟩ := okWide_slice Try.underlying22 hv
  obtain ⟨A, c, xs, h1, h2, h3, h4⟩ := arg_slice Try.underlying22 h rd22
  exact ⟨A, c, xs, by simpa [Value.cells] using h1, h2, h3, h4⟩
set_option maxRecDepth 100000 in
theorem arg39 {base : Nat} {spare : Nat → Bool} {held : Bool} {v : Value} {D : DataW H} {ps : List MemPlace} {r : Reach} {b : Nat} (hv : Value.okWide Try.prog w r b 39 v) (h : DataW.Trod enc Try.prog w base spare held 39 v D ps) :
    ∃ A c xs, v = .slice A (List.length xs) c ∧ xs.length ≤ c ∧ Kd.C k55 w A xs.length xs ∧ ∀ x ∈ xs, wf55 x := by
  obtain ⟨a, len, cap, rfl⟩ := okWide_slice Try.underlying39 hv
  obtain ⟨A, c, xs, h1, h2, h3, h4⟩ := arg_slice Try.underlying39 h rd39
  exact ⟨A, c, xs, by simpa [Value.cells] using h1, h2, h3, h4⟩
set_option maxRecDepth 100000 in
theorem arg36 {base : Nat} {spare : Nat → Bool} {held : Bool} {v : Value} {D : DataW H} {ps : List MemPlace} {r : Reach} {b : Nat} (hv : Value.okWide Try.prog w r b 36 v) (h : DataW.Trod enc Try.prog w base spare held 36 v D ps) :
    ∃ A c xs, v = .slice A (List.length xs) c ∧ xs.length ≤ c ∧ Kd.C (Kd.int .i64) w A xs.length xs ∧ ∀ x ∈ xs, wfI x := by
  obtain ⟨a, len, cap, rfl⟩ := okWide_slice Try.underlying36 hv
  obtain ⟨A, c, xs, h1, h2, h3, h4⟩ := arg_slice Try.underlying36 h rd36
  exact ⟨A, c, xs, by simpa [Value.cells] using h1, h2, h3, h4⟩
end Go.Proofs.Yteebkkdbkkibmaa.Read
namespace Go.Proofs.Yteebkkdbkkibmaa.differenceHolds
open Go.ChangeShapes Go.WideShapes Go.ChangeAt Go.RowKit
set_option linter.unusedVariables false
theorem own : ownKnob Try.prog.godebug = none := by kernel_rfl
theorem laidOut : laidOutB Try.prog = true := by kernel_rfl
set_option maxRecDepth 100000 in
theorem lifted (os : Os) (started : os.Started) (H : Type) (enc : TypeId × Value → H) :
    ReturnsInHanded {} Try.checked os 11 .any (Rows.differenceHoldsSpec.pre6 enc Try.prog Try.f11 Rows.differenceHoldsRow.domain false) (Rows.differenceHoldsSpec.post enc Try.prog Try.f11 false true false false) := by
  refine returnsInHanded_of_change_sized (C := Try.checked) own started (by kernel_rfl) Try.func11
    (ChangeSpec.witness6 (enc := enc) (C := Try.checked) false ⟨#[], #[.agg #[.int .i64 0, .int .i64 0, .int .i64 0, .int .i64 0, .int .i64 0], .slice none 0 0], []⟩ 8 (by kernel_rfl) (by kernel_rfl) (by kernel_rfl) (by kernel_rfl)) ?_
  intro W base args ds gs before hval0 hW hcnd hsz0 _
  have hval : ∀ (j : Nat) t v, Try.f11.params[j]? = some t → args[j]? = some v → Value.okWide Try.prog W .any base t v := hval0
  have hW' := hW
  obtain ⟨p, q, hA0, hV, rfl, hfz, hnd⟩ := hW
  have hA : DataW.TrodAll enc Try.prog W 0 (fun _ => true) true Try.f11.params.toList args.toList ds p := hA0
  rw [Try.params11] at hA hval
  obtain ⟨v0, vs0, d0, ds0, p0, q0, hargs, rfl, rfl, h0, r0⟩ := trodAll_cons hA
  obtain ⟨v1, vs1, d1, ds1, p1, q1, rfl, rfl, rfl, h1, r1⟩ := trodAll_cons r0
  obtain ⟨rfl, rfl, rfl⟩ := trodAll_nil r1
  obtain rfl : args = #[v0, v1] := by cases args; simp_all
  obtain ⟨rfl, rfl⟩ := trodVars_none hV
  have k0 := h0
  have lt0 : ∀ x ∈ p0, x.block < W.heap.size := by obtain ⟨m, hm⟩ := k0; exact DataW.trod_lt m _ _ _ hm
  obtain ⟨x0, rfl, w0⟩ := Read.arg26 (hval 0 26 v0 rfl rfl) h0
  have k1 := h1
  have lt1 : ∀ x ∈ p1, x.block < W.heap.size := by obtain ⟨m, hm⟩ := k1; exact DataW.trod_lt m _ _ _ hm
  obtain ⟨A1, c1, l1, rfl, hc1, hr1, w1⟩ := Read.arg36 (hval 1 36 v1 rfl rfl) h1
  clear hA0 hval0 hsz0
  obtain ⟨k, hk⟩ := (Pure.holds_law x0 l1).rounds
  refine (Pr.scarfjointlaw03_DifferenceHolds.calls k x0.f0 x0.f1.f0 x0.f1.f1 x0.f2.f0 x0.f2.f1 A1 c1 l1 true W hr1 hc1 hk).mono fun e W' ⟨he, bel⟩ => ?_
  subst he
  exact ⟨_, rfl, _, _, _, [], _, [], hW', trodAll_mk1 (shut_bool Try.underlying4 _), (trodAll_cons_mk (Below.trod laidOut (by kernel_rfl) (of_decide_eq_true (by kernel_rfl)) k0 bel lt0) (trodAll_cons_mk (Below.trod laidOut (by kernel_rfl) (of_decide_eq_true (by kernel_rfl)) k1 bel lt1) trodAll_mk0)), rfl, bel.frame _, fun h => by cases h⟩
theorem over : Rows.differenceHoldsRow.holds Try.pinned (OpenSpec.ofChange Rows.differenceHoldsSpec) :=
  OpenClaim.holds_of_wide 11 Try.f11 rfl rfl rfl rfl rfl rfl rfl ⟨rfl, rfl, rfl, rfl, rfl⟩ rfl rfl rfl rfl rfl (by kernel_rfl) Try.func11 (by kernel_rfl)
    (of_decide_eq_true (by kernel_rfl)) (by unfold Func.isWrapper; first | (rw [if_pos (by decide +kernel)]; kernel_rfl) | (rw [if_neg (by decide +kernel)]; exact ⟨rfl, rfl⟩))
    (fun os started H enc _ => lifted os started H enc)
theorem proved : Rows.DifferenceHoldsSaid := over
end Go.Proofs.Yteebkkdbkkibmaa.differenceHolds
namespace Go.Proofs.Yteebkkdbkkibmaa
/-- The row, under a short name, for the claim. -/
theorem differenceHolds_holds : Rows.DifferenceHoldsSaid := differenceHolds.proved
end Go.Proofs.Yteebkkdbkkibmaa
#print axioms Go.Proofs.Yteebkkdbkkibmaa.differenceHolds_holds
