/- What the programs' functions Valid and arcs come to, at the program and at the reference: one answer. Conditions: none on the tests for Valid; for arcs at most 1000 tests. -/
import Derived.Test.YteebkkdbkkibmaaPr4
import Derived.Test.YteebkkdbkkibmaaPr13
import Derived.Test.YteebkkdbkkibmaaPr14
namespace Go.Proofs.Yteebkkdbkkibmaa.Pure
open Go.RowKit Go.Proofs.Yteebkkdbkkibmaa.Pr Go.Proofs.YteebkkdbkkibmaaW.PrintWords Go.Proofs.YteebkkdbkkibmaaW.PrintLast
set_option linter.unusedVariables false

/-! ### From some round on -/
theorem Ev.ite_pos {α : Type} {c : Prop} [Decidable c] {g f : Nat → Option α} {r : α} (hc : c) (h : Ev g r) : Ev (fun k => if c then g k else f k) r := by simpa [if_pos hc] using h
theorem Ev.ite_neg {α : Type} {c : Prop} [Decidable c] {g f : Nat → Option α} {r : α} (hc : ¬ c) (h : Ev f r) : Ev (fun k => if c then g k else f k) r := by simpa [if_neg hc] using h
theorem Ev.some_bind {α β : Type} {a : α} {f : Nat → α → Option β} {r : β} (h : Ev (fun n => f n a) r) : Ev (fun n => (some a).bind (f n)) r := h
theorem Ev.const_bind {α β : Type} {g : Option α} {a : α} {f : Nat → α → Option β} {r : β} (hg : g = some a) (h : Ev (fun n => f n a) r) : Ev (fun n => g.bind (f n)) r := by subst hg; exact h
theorem Ev.mono1 {α : Type} {g f : Nat → Option α} {r : α} (h : ∀ k, g (k + 1) = f k) (hf : Ev f r) : Ev g r := Ev.step h hf
theorem rdT26_at {l : List S26} {pre rest : List S26} {x : S26} (h : l = pre ++ x :: rest) : rd_T26 l (pre.length : Int) = x := by
  subst h; simp [rd_T26]
theorem w64 {n : Int} (h : -9223372036854775808 ≤ n ∧ n ≤ 9223372036854775807) : wrap64 n = n := by unfold wrap64; omega

/-! ### The error of a test -/
def termOk (n v a : Int) : Bool := decide (-1 ≤ v) && decide (v < n) && decide (-1000000 ≤ a) && decide (a ≤ 1000000)
def errOne (n k lv la rv ra : Int) : Int := if k ≠ 1 ∧ k ≠ 2 then 1 else if termOk n lv la = true ∧ termOk n rv ra = true then 0 else 6
def errOf (n : Int) (x : S26) : Int := errOne n x.f0 x.f1.f0 x.f1.f1 x.f2.f0 x.f2.f1
def errL (n : Int) : List S26 → Int
  | [] => 0
  | x :: l => if errOf n x = 0 then errL n l else errOf n x
def errV (n : Int) (l : List S26) : Int := if n < 0 ∨ 12 < n then 6 else if 40 < l.length then 3 else errL n l

theorem term_eq (n v a : Int) : difference_term.f n v a = some (termOk n v a) := by
  unfold difference_term.f termOk
  by_cases h1 : v ≥ -1
  · by_cases h2 : v < n
    · by_cases h3 : a ≥ -1000000
      · rw [if_pos h1, if_pos h2, if_pos h3]; simp [h2, show -1 ≤ v from h1, show -1000000 ≤ a from h3]
      · rw [if_pos h1, if_pos h2, if_neg h3]; simp [show ¬ (-1000000 ≤ a) from h3]
    · rw [if_pos h1, if_neg h2]; simp [h2]
  · rw [if_neg h1]; simp [show ¬ (-1 ≤ v) from h1]
theorem one_ev (n k lv la rv ra : Int) : Ev (fun q => difference_one.f q n k lv la rv ra) (errOne n k lv la rv ra) := by
  have key : ∀ b : Bool, b = decide (k ≠ 1 ∧ k ≠ 2) → Ev (fun q => difference_one.j0 q n b k lv la rv ra) (errOne n k lv la rv ra) := by
    intro b hb
    refine Ev.step (f := fun _ => if b = true then some 1 else ((difference_term.f n lv la).bind fun t103 => (if t103 = true then ((difference_term.f n rv ra).bind fun t104 => (if t104 = true then (some 0) else (some 6))) else (some 6)))) (fun q => by rw [difference_one.j0]) ⟨0, fun q _ => ?_⟩
    rw [term_eq, term_eq]
    unfold errOne
    subst hb
    by_cases h : k ≠ 1 ∧ k ≠ 2
    · simp [h]
    · rw [if_neg h, if_neg (by simpa using h)]
      simp only [Option.bind_some]
      cases termOk n lv la <;> cases termOk n rv ra <;> simp
  unfold difference_one.f
  by_cases h1 : k = 1
  · exact Ev.ite_pos h1 (key false (by simp [h1]))
  · exact Ev.ite_neg h1 (key (k != 2) (by simp [h1, bne]; by_cases h2 : k = 2 <;> simp [h2]))
theorem within_eq (n v a : Int) : scarfjointref03_within.f n v a = some (if termOk n v a = true then 0 else 6) := by
  unfold scarfjointref03_within.f termOk
  by_cases h1 : v < -1
  · rw [if_pos h1]; simp [show ¬ (-1 ≤ v) by omega]
  · by_cases h2 : v ≥ n
    · rw [if_neg h1, if_pos h2]; simp [show ¬ (v < n) by omega]
    · by_cases h3 : a < -1000000
      · rw [if_neg h1, if_neg h2, if_pos h3]; simp [show ¬ (-1000000 ≤ a) by omega]
      · by_cases h4 : a > 1000000
        · rw [if_neg h1, if_neg h2, if_neg h3, if_pos h4]; simp [show ¬ (a ≤ 1000000) by omega]
        · rw [if_neg h1, if_neg h2, if_neg h3, if_neg h4]; simp [show -1 ≤ v by omega, show v < n by omega, show -1000000 ≤ a by omega, show a ≤ 1000000 by omega]
theorem One_ev (n k lv la rv ra : Int) : Ev (fun q => scarfjointref03_One.f q n k lv la rv ra) (errOne n k lv la rv ra) := by
  have key : ∀ b : Bool, b = decide (k ≠ 1 ∧ k ≠ 2) → Ev (fun q => scarfjointref03_One.j0 q n b k lv la rv ra) (errOne n k lv la rv ra) := by
    intro b hb
    refine Ev.step (f := fun _ => if b = true then (some 1) else ((scarfjointref03_within.f n lv la).bind fun t287 => (if t287 = 0 then ((scarfjointref03_within.f n rv ra).bind fun t288 => (some t288)) else (some t287)))) (fun q => by rw [scarfjointref03_One.j0]) ⟨0, fun q _ => ?_⟩
    rw [within_eq, within_eq]
    unfold errOne
    subst hb
    by_cases h : k ≠ 1 ∧ k ≠ 2
    · simp [h]
    · rw [if_neg h, if_neg (by simpa using h)]
      simp only [Option.bind_some]
      cases termOk n lv la <;> cases termOk n rv ra <;> simp
  unfold scarfjointref03_One.f
  by_cases h1 : k = 1
  · exact Ev.ite_pos h1 (key false (by simp [h1]))
  · exact Ev.ite_neg h1 (key (k != 2) (by simp [h1, bne]; by_cases h2 : k = 2 <;> simp [h2]))

theorem valid_loop (n : Int) (l : List S26) (hl : l.length ≤ 1000) : ∀ (rest pre : List S26), l = pre ++ rest → Ev (fun q => difference_Valid.l0 q n l (l.length : Int) (pre.length : Int)) (errL n rest)
  | [], pre, h => by
    refine Ev.step (f := fun _ => some 0) (fun q => ?_) (Ev.now 0)
    rw [difference_Valid.l0, if_neg (by rw [h]; simp)]
  | x :: rest, pre, h => by
    have hlen : pre.length < l.length := by rw [h]; simp
    have ih := valid_loop n l hl rest (pre ++ [x]) (by rw [h]; simp)
    refine Ev.step (f := fun q => (difference_one.f q n x.f0 x.f1.f0 x.f1.f1 x.f2.f0 x.f2.f1).bind fun t107 => (if t107 = 0 then (difference_Valid.l0 q n l (l.length : Int) ((pre ++ [x]).length : Int)) else (some t107))) (fun q => ?_) ?_
    · rw [difference_Valid.l0, if_pos (by omega), if_pos (by omega), if_pos (by omega), rdT26_at h, w64 (by omega)]
      simp
    · refine Ev.bind (one_ev n _ _ _ _ _) ?_
      simp only [errL]
      by_cases h0 : errOf n x = 0
      · rw [if_pos h0]; exact Ev.ite_pos h0 ih
      · rw [if_neg h0]; exact Ev.ite_neg h0 (Ev.now _)
theorem valid_ev (n : Int) (l : List S26) : Ev (fun q => difference_Valid.f q n l) (errV n l) := by
  have key : ∀ b : Bool, b = decide (n < 0 ∨ 12 < n) → Ev (fun q => difference_Valid.j0 q n l b) (errV n l) := by
    intro b hb
    refine Ev.step (f := fun q => if b = true then some 6 else if (l.length : Int) > 40 then some 3 else difference_Valid.l0 q n l (l.length : Int) 0) (fun q => by rw [difference_Valid.j0]) ?_
    unfold errV
    subst hb
    by_cases h : n < 0 ∨ 12 < n
    · rw [if_pos h]; exact Ev.ite_pos (by simpa using h) (Ev.now 6)
    · rw [if_neg h]
      refine Ev.ite_neg (by simpa using h) ?_
      by_cases h40 : 40 < l.length
      · rw [if_pos h40]; exact Ev.ite_pos (by omega) (Ev.now 3)
      · rw [if_neg h40]; exact Ev.ite_neg (by omega) (valid_loop n l (by omega) l [] rfl)
  unfold difference_Valid.f
  by_cases h1 : n < 0
  · exact Ev.ite_pos h1 (key true (by simp [h1]))
  · exact Ev.ite_neg h1 (key (decide (n > 12)) (by simp [h1]))
theorem Valid_loop (n : Int) (l : List S26) (hl : l.length ≤ 1000) : ∀ (rest pre : List S26), l = pre ++ rest → Ev (fun q => scarfjointref03_Valid.l0 q n l (pre.length : Int)) (errL n rest)
  | [], pre, h => by
    refine Ev.step (f := fun _ => some 0) (fun q => ?_) (Ev.now 0)
    rw [scarfjointref03_Valid.l0, if_neg (by rw [h]; simp)]
  | x :: rest, pre, h => by
    have hlen : pre.length < l.length := by rw [h]; simp
    have ih := Valid_loop n l hl rest (pre ++ [x]) (by rw [h]; simp)
    refine Ev.step (f := fun q => (scarfjointref03_One.f q n x.f0 x.f1.f0 x.f1.f1 x.f2.f0 x.f2.f1).bind fun t107 => (if t107 = 0 then (scarfjointref03_Valid.l0 q n l ((pre ++ [x]).length : Int)) else (some t107))) (fun q => ?_) ?_
    · rw [scarfjointref03_Valid.l0, if_pos (by omega), if_pos (by omega), rdT26_at h, w64 (by omega)]
      simp
    · refine Ev.bind (One_ev n _ _ _ _ _) ?_
      simp only [errL]
      by_cases h0 : errOf n x = 0
      · rw [if_pos h0]; exact Ev.ite_pos h0 ih
      · rw [if_neg h0]; exact Ev.ite_neg h0 (Ev.now _)
theorem Valid_ev (n : Int) (l : List S26) : Ev (fun q => scarfjointref03_Valid.f q n l) (errV n l) := by
  have key : ∀ b : Bool, b = decide (n < 0 ∨ 12 < n) → Ev (fun q => scarfjointref03_Valid.j0 q n l b) (errV n l) := by
    intro b hb
    refine Ev.step (f := fun q => if b = true then some 6 else if (l.length : Int) > 40 then some 3 else scarfjointref03_Valid.l0 q n l 0) (fun q => by rw [scarfjointref03_Valid.j0]) ?_
    unfold errV
    subst hb
    by_cases h : n < 0 ∨ 12 < n
    · rw [if_pos h]; exact Ev.ite_pos (by simpa using h) (Ev.now 6)
    · rw [if_neg h]
      refine Ev.ite_neg (by simpa using h) ?_
      by_cases h40 : 40 < l.length
      · rw [if_pos h40]; exact Ev.ite_pos (by omega) (Ev.now 3)
      · rw [if_neg h40]; exact Ev.ite_neg (by omega) (Valid_loop n l (by omega) l [] rfl)
  unfold scarfjointref03_Valid.f
  by_cases h1 : n < 0
  · exact Ev.ite_pos h1 (key true (by simp [h1]))
  · exact Ev.ite_neg h1 (key (decide (n > 12)) (by simp [h1]))

/-! ### The uses of tests -/
def arc1 (i : Int) (x : S26) : S71 := ⟨⟨i, 1⟩, wrap64 (x.f1.f0 + 1), wrap64 (x.f2.f0 + 1), wrap64 (x.f2.f1 - x.f1.f1)⟩
def arc2 (i : Int) (x : S26) : S71 := ⟨⟨i, -1⟩, wrap64 (x.f2.f0 + 1), wrap64 (x.f1.f0 + 1), wrap64 (-(wrap64 (x.f2.f1 - x.f1.f1)))⟩
def arcsX (i : Int) (x : S26) : List S71 := if x.f0 = 2 then [arc1 i x, arc2 i x] else [arc1 i x]
def arcsF : Nat → List S26 → List S71
  | _, [] => []
  | i, x :: l => arcsX (i : Int) x ++ arcsF (i + 1) l
def to79 (a : S71) : S79 := ⟨a.f0, a.f1, a.f2, a.f3⟩
theorem arcsX_len (i : Int) (x : S26) : (arcsX i x).length ≤ 2 := by unfold arcsX; split <;> simp
theorem arcsF_len : ∀ (i : Nat) (l : List S26), (arcsF i l).length ≤ 2 * l.length
  | _, [] => by simp [arcsF]
  | i, x :: l => by
    have := arcsF_len (i + 1) l
    have := arcsX_len (i : Int) x
    simp only [arcsF, List.length_append, List.length_cons]
    omega

theorem arcs_loop (l : List S26) (hl : l.length ≤ 1000) : ∀ (rest pre : List S26) (acc : List S71), l = pre ++ rest → acc.length + 2 * rest.length ≤ 100000 →
    Ev (fun q => difference_arcs.l0 q acc l (l.length : Int) (pre.length : Int)) (acc ++ arcsF pre.length rest)
  | [], pre, acc, h, _ => by
    refine Ev.step (f := fun _ => some acc) (fun q => ?_) (by simpa [arcsF] using Ev.now acc)
    rw [difference_arcs.l0, if_neg (by rw [h]; simp)]
  | x :: rest, pre, acc, h, hb => by
    have hlen : pre.length < l.length := by rw [h]; simp
    simp only [List.length_cons] at hb
    have ih := arcs_loop l hl rest (pre ++ [x]) (acc ++ arcsX (pre.length : Int) x) (by rw [h]; simp) (by
      have := arcsX_len (pre.length : Int) x
      rw [List.length_append]; omega)
    rw [List.length_append, List.length_singleton] at ih
    have he : acc ++ arcsF pre.length (x :: rest) = acc ++ arcsX (pre.length : Int) x ++ arcsF (pre.length + 1) rest := by simp [arcsF]
    rw [he]
    refine Ev.step (f := fun q => difference_arcs.l0 q (acc ++ arcsX (pre.length : Int) x) l (l.length : Int) ((pre.length + 1 : Nat) : Int)) (fun q => ?_) ih
    have hw : wrap64 ((pre.length : Int) + 1) = ((pre.length + 1 : Nat) : Int) := by rw [w64 (by omega)]; omega
    rw [difference_arcs.l0, if_pos (by omega), if_pos (by omega), if_pos (by omega), if_pos (by omega), rdT26_at h, hw]
    simp only [Option.bind_some]
    unfold arcsX
    by_cases h2 : x.f0 = 2
    · rw [if_pos h2, if_pos h2, if_pos (by rw [List.length_append]; simp; omega)]
      simp [arc1, arc2]
    · rw [if_neg h2, if_neg h2]
      simp [arc1]
theorem arcs_ev (l : List S26) (hl : l.length ≤ 1000) : Ev (fun q => difference_arcs.f q l) (arcsF 0 l) := by
  have := arcs_loop l hl l [] [] rfl (by simp; omega)
  simpa [difference_arcs.f] using this
theorem Arcs_loop (l : List S26) (hl : l.length ≤ 1000) : ∀ (rest pre : List S26) (acc : List S79), l = pre ++ rest → acc.length + 2 * rest.length ≤ 100000 →
    Ev (fun q => scarfjointref03_arcs.l0 q l acc (pre.length : Int)) (acc ++ (arcsF pre.length rest).map to79)
  | [], pre, acc, h, _ => by
    refine Ev.step (f := fun _ => some acc) (fun q => ?_) (by simpa [arcsF] using Ev.now acc)
    rw [scarfjointref03_arcs.l0, if_neg (by rw [h]; simp)]
  | x :: rest, pre, acc, h, hb => by
    have hlen : pre.length < l.length := by rw [h]; simp
    simp only [List.length_cons] at hb
    have ih := Arcs_loop l hl rest (pre ++ [x]) (acc ++ (arcsX (pre.length : Int) x).map to79) (by rw [h]; simp) (by
      have := arcsX_len (pre.length : Int) x
      rw [List.length_append, List.length_map]; omega)
    rw [List.length_append, List.length_singleton] at ih
    have he : acc ++ (arcsF pre.length (x :: rest)).map to79 = acc ++ (arcsX (pre.length : Int) x).map to79 ++ (arcsF (pre.length + 1) rest).map to79 := by simp [arcsF]
    rw [he]
    refine Ev.step (f := fun q => scarfjointref03_arcs.l0 q l (acc ++ (arcsX (pre.length : Int) x).map to79) ((pre.length + 1 : Nat) : Int)) (fun q => ?_) ih
    have hw : wrap64 ((pre.length : Int) + 1) = ((pre.length + 1 : Nat) : Int) := by rw [w64 (by omega)]; omega
    rw [scarfjointref03_arcs.l0, if_pos (by omega), if_pos (by omega), if_pos (by omega), rdT26_at h, hw]
    simp only [Option.bind_some]
    unfold arcsX
    by_cases h2 : x.f0 = 2
    · rw [if_pos h2, if_pos h2, if_pos (by rw [List.length_append]; simp; omega)]
      simp [arc1, arc2, to79]
    · rw [if_neg h2, if_neg h2]
      simp [arc1, to79]
theorem Arcs_ev (l : List S26) (hl : l.length ≤ 1000) : Ev (fun q => scarfjointref03_arcs.f q l) ((arcsF 0 l).map to79) := by
  have := Arcs_loop l hl l [] [] rfl (by simp; omega)
  simpa [scarfjointref03_arcs.f] using this
end Go.Proofs.Yteebkkdbkkibmaa.Pure
