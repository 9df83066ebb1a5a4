/- The law DifferenceReduce over the printed functions: it comes to true. Conditions: none. -/
import Derived.Test.YteebkkdbkkibmaaPr22
import Derived.Test.YteebkkdbkkibmaaPf
namespace Go.Proofs.Yteebkkdbkkibmaa.Pure
open Go.RowKit Go.Proofs.Yteebkkdbkkibmaa.Pr Go.Proofs.YteebkkdbkkibmaaW.PrintWords Go.Proofs.YteebkkdbkkibmaaW.PrintLast Go.Proofs.YteebkkdbkkibmaaW.PrintMore Go.Proofs.Yteebkkdbkkibmaa.Bf
set_option linter.unusedVariables false

theorem arcsF_append : ∀ (l m : List S26) (i : Nat), arcsF i (l ++ m) = arcsF i l ++ arcsF (i + l.length) m
  | [], m, i => by simp [arcsF]
  | x :: l, m, i => by
    simp only [List.cons_append, arcsF, List.append_assoc, arcsF_append l m (i + 1), List.length_cons]
    rw [show i + 1 + l.length = i + (l.length + 1) by omega]
theorem Imp_mono {A B : List Arc} (h : ∀ a ∈ A, a ∈ B) {a : Arc} (hi : Imp A a) : Imp B a := fun v hv => hi v (fun b hb => hv b (h b hb))
theorem ImpX_append {l m : List S26} {x : S26} (h : ImpX l x) : ImpX (l ++ m) x := fun a ha => Imp_mono (fun b hb => by rw [arcsF_append, List.map_append]; exact List.mem_append_left _ hb) (h a ha)
theorem arcsX_toA (i j : Int) (x : S26) : (arcsX i x).map toA = (arcsX j x).map toA := by unfold arcsX; split <;> rfl
theorem arcsX_mem : ∀ (l : List S26) (i : Nat) (x : S26), x ∈ l → ∀ a ∈ (arcsX 0 x).map toA, a ∈ (arcsF i l).map toA
  | [], i, x, h => by cases h
  | y :: l, i, x, h => fun a ha => by
    rw [show arcsF i (y :: l) = arcsX i y ++ arcsF (i + 1) l from rfl, List.map_append]
    rcases List.mem_cons.1 h with rfl | h
    · exact List.mem_append_left _ (by rw [arcsX_toA _ 0]; exact ha)
    · exact List.mem_append_right _ (arcsX_mem l (i + 1) x h a ha)
theorem ImpX_mem {l : List S26} {x : S26} (h : x ∈ l) : ImpX l x := fun a ha v hv => hv (toA a) (arcsX_mem l 0 x h (toA a) (List.mem_map_of_mem ha))

open Classical in
/-- The first answer of Implies. -/
noncomputable def impB (n : Int) (l : List S26) (x : S26) : Bool := (impR n l x (decide (ImpX l x))).1
open Classical in
/-- The tests that remain. -/
noncomputable def redL (n : Int) : List S26 → List S26 → List S26
  | [], out => out
  | x :: rest, out => if impB n out x = true then redL n rest out else redL n rest (out ++ [x])
theorem red_loop (n : Int) (l : List S26) (hl : l.length ≤ 1000) : ∀ (rest pre out : List S26), l = pre ++ rest → out.length ≤ pre.length → Ev (fun q => difference_Reduce.l0 q n out l (l.length : Int) (pre.length : Int)) (redL n rest out, 0)
  | [], pre, out, h, ho => by
    refine Ev.step (f := fun _ => some (out, 0)) (fun q => ?_) (Ev.now _)
    rw [difference_Reduce.l0, if_neg (by rw [h]; simp)]
  | x :: rest, pre, out, h, ho => by
    have hlen : pre.length < l.length := by rw [h]; simp
    have hw : wrap64 ((pre.length : Int) + 1) = ((pre ++ [x]).length : Int) := by rw [w64 (by omega)]; simp
    refine Ev.step (f := fun q => (difference_Implies.f q n out x.f0 x.f1.f0 x.f1.f1 x.f2.f0 x.f2.f1).bind fun bt => (if bt.1 = true then (difference_Reduce.l0 q n out l (l.length : Int) ((pre ++ [x]).length : Int)) else (if out.length < 3518437208883 then (difference_Reduce.l0 q n (out ++ [x]) l (l.length : Int) ((pre ++ [x]).length : Int)) else none))) (fun q => ?_) ?_
    · rw [difference_Reduce.l0, if_pos (by omega), if_pos (by omega), if_pos (by omega), rdT26_at h, hw]
    · refine Ev.bind (implies_ev n out x (b := @decide (ImpX out x) (Classical.propDecidable _)) (@decide_eq_true_iff _ (Classical.propDecidable _))) ?_
      unfold redL
      by_cases hb : impB n out x = true
      · rw [if_pos hb]
        exact Ev.ite_pos hb (red_loop n l hl rest (pre ++ [x]) out (by rw [h]; simp) (by simp; omega))
      · rw [if_neg hb]
        refine Ev.ite_neg hb (Ev.ite_pos (by omega) (red_loop n l hl rest (pre ++ [x]) (out ++ [x]) (by rw [h]; simp) (by simp; omega)))
theorem Red_loop (n : Int) (l : List S26) (hl : l.length ≤ 1000) : ∀ (rest pre out : List S26), l = pre ++ rest → out.length ≤ pre.length → Ev (fun q => scarfjointref03_Reduce.l0 q n l out (pre.length : Int)) (redL n rest out, 0)
  | [], pre, out, h, ho => by
    refine Ev.step (f := fun _ => some (out, 0)) (fun q => ?_) (Ev.now _)
    rw [scarfjointref03_Reduce.l0, if_neg (by rw [h]; simp)]
  | x :: rest, pre, out, h, ho => by
    have hlen : pre.length < l.length := by rw [h]; simp
    have hw : wrap64 ((pre.length : Int) + 1) = ((pre ++ [x]).length : Int) := by rw [w64 (by omega)]; simp
    refine Ev.step (f := fun q => (scarfjointref03_Implies.f q n out x.f0 x.f1.f0 x.f1.f1 x.f2.f0 x.f2.f1).bind fun bt => (if bt.1 = true then (scarfjointref03_Reduce.l0 q n l out ((pre ++ [x]).length : Int)) else (if out.length < 3518437208883 then (scarfjointref03_Reduce.l0 q n l (out ++ [x]) ((pre ++ [x]).length : Int)) else none))) (fun q => ?_) ?_
    · rw [scarfjointref03_Reduce.l0, if_pos (by omega), if_pos (by omega), rdT26_at h, hw]
    · refine Ev.bind (Implies_ev n out x (b := @decide (ImpX out x) (Classical.propDecidable _)) (@decide_eq_true_iff _ (Classical.propDecidable _))) ?_
      unfold redL
      by_cases hb : impB n out x = true
      · rw [if_pos hb]
        exact Ev.ite_pos hb (Red_loop n l hl rest (pre ++ [x]) out (by rw [h]; simp) (by simp; omega))
      · rw [if_neg hb]
        refine Ev.ite_neg hb (Ev.ite_pos (by omega) (Red_loop n l hl rest (pre ++ [x]) (out ++ [x]) (by rw [h]; simp) (by simp; omega)))
theorem errV_len {n : Int} {l : List S26} (h : errV n l = 0) : l.length ≤ 40 := (errV_zero h).2.2.1
theorem red_ev (n : Int) (l : List S26) : Ev (fun q => difference_Reduce.f q n l) (if errV n l = 0 then (redL n l [], 0) else ([], errV n l)) := by
  unfold difference_Reduce.f
  refine Ev.bind (valid_ev n l) ?_
  by_cases h : errV n l = 0
  · rw [if_pos h]; exact Ev.ite_pos h (red_loop n l (by have := errV_len h; omega) l [] [] rfl (by simp))
  · rw [if_neg h]; exact Ev.ite_neg h (Ev.now _)
theorem Red_ev (n : Int) (l : List S26) : Ev (fun q => scarfjointref03_Reduce.f q n l) (if errV n l = 0 then (redL n l [], 0) else ([], errV n l)) := by
  unfold scarfjointref03_Reduce.f
  refine Ev.bind (Valid_ev n l) ?_
  by_cases h : errV n l = 0
  · rw [if_pos h]; exact Ev.ite_pos h (Red_loop n l (by have := errV_len h; omega) l [] [] rfl (by simp))
  · rw [if_neg h]; exact Ev.ite_neg h (Ev.now _)

theorem same_loop (l : List S26) (hl : l.length ≤ 1000) : ∀ (rest pre : List S26), l = pre ++ rest → Ev (fun q => scarfjointref03_SameTests.l0 q l l (pre.length : Int)) true
  | [], pre, h => by
    refine Ev.step (f := fun _ => some true) (fun q => ?_) (Ev.now _)
    rw [scarfjointref03_SameTests.l0, if_neg (by rw [h]; simp)]
  | x :: rest, pre, h => by
    have hlen : pre.length < l.length := by rw [h]; simp
    have hw : wrap64 ((pre.length : Int) + 1) = ((pre ++ [x]).length : Int) := by rw [w64 (by omega)]; simp
    refine Ev.step (fun q => ?_) (same_loop l hl rest (pre ++ [x]) (by rw [h]; simp))
    rw [scarfjointref03_SameTests.l0, if_pos (by omega), if_pos (by omega), if_pos (by omega), rdT26_at h, hw, if_neg (by simp)]
theorem same_ev (l : List S26) (hl : l.length ≤ 1000) : Ev (fun q => scarfjointref03_SameTests.f q l l) true := by
  unfold scarfjointref03_SameTests.f
  exact Ev.ite_pos rfl (same_loop l hl l [] rfl)

theorem redL_len (n : Int) : ∀ (rest out : List S26), (redL n rest out).length ≤ out.length + rest.length
  | [], out => by simp [redL]
  | x :: rest, out => by
    unfold redL
    split
    · have := redL_len n rest out; simp; omega
    · have := redL_len n rest (out ++ [x]); simp at this ⊢; omega
theorem redL_pre (n : Int) : ∀ (rest out : List S26), ∃ m, redL n rest out = out ++ m
  | [], out => ⟨[], by simp [redL]⟩
  | x :: rest, out => by
    unfold redL
    split
    · exact redL_pre n rest out
    · obtain ⟨m, hm⟩ := redL_pre n rest (out ++ [x])
      exact ⟨x :: m, by rw [hm]; simp⟩
theorem redL_sub (n : Int) {P : S26 → Prop} : ∀ (rest out : List S26), (∀ x ∈ rest, P x) → (∀ x ∈ out, P x) → ∀ x ∈ redL n rest out, P x
  | [], out, h1, h2 => by simpa [redL] using h2
  | x :: rest, out, h1, h2 => by
    unfold redL
    split
    · exact redL_sub n rest out (fun y hy => h1 y (by simp [hy])) h2
    · refine redL_sub n rest (out ++ [x]) (fun y hy => h1 y (by simp [hy])) (fun y hy => ?_)
      rcases List.mem_append.1 hy with hy | hy
      · exact h2 y hy
      · rw [List.mem_singleton.1 hy]; exact h1 x (by simp)
theorem impB_ImpX {n : Int} {l : List S26} {x : S26} (h : impB n l x = true) : ImpX l x := by
  unfold impB impR at h
  split at h
  · split at h
    · simpa using h
    · simp at h
  · simp at h
theorem redL_imp (n : Int) : ∀ (rest out : List S26), ∀ x ∈ rest, ImpX (redL n rest out) x
  | [], out, x, h => by cases h
  | y :: rest, out, x, h => by
    unfold redL
    split
    · rename_i hb
      rcases List.mem_cons.1 h with rfl | h
      · obtain ⟨m, hm⟩ := redL_pre n rest out
        rw [hm]; exact ImpX_append (impB_ImpX hb)
      · exact redL_imp n rest out x h
    · rcases List.mem_cons.1 h with rfl | h
      · obtain ⟨m, hm⟩ := redL_pre n rest (out ++ [x])
        rw [hm]; exact ImpX_append (ImpX_mem (by simp))
      · exact redL_imp n rest (out ++ [y]) x h
theorem errL_of {n : Int} : ∀ {l : List S26}, (∀ x ∈ l, errOf n x = 0) → errL n l = 0
  | [], _ => rfl
  | x :: l, h => by unfold errL; rw [if_pos (h x (by simp))]; exact errL_of (fun y hy => h y (by simp [hy]))
theorem errV_of {n : Int} {l : List S26} (h0 : 0 ≤ n) (h12 : n ≤ 12) (hl : l.length ≤ 40) (h : ∀ x ∈ l, errOf n x = 0) : errV n l = 0 := by
  unfold errV; rw [if_neg (by omega), if_neg (by omega)]; exact errL_of h
theorem all_loop (n : Int) (l a : List S26) (hl : l.length ≤ 1000) (ha : errV n a = 0) (hx : ∀ x ∈ l, errOf n x = 0) (hi : ∀ x ∈ l, ImpX a x) : ∀ (rest pre : List S26), l = pre ++ rest → Ev (fun q => scarfjointlaw03_DifferenceReduce.l0 q n a l (l.length : Int) (pre.length : Int)) true
  | [], pre, h => by
    refine Ev.step (f := fun _ => some true) (fun q => ?_) (Ev.now _)
    rw [scarfjointlaw03_DifferenceReduce.l0, if_neg (by rw [h]; simp)]
  | x :: rest, pre, h => by
    have hlen : pre.length < l.length := by rw [h]; simp
    have hw : wrap64 ((pre.length : Int) + 1) = ((pre ++ [x]).length : Int) := by rw [w64 (by omega)]; simp
    refine Ev.step (f := fun q => (difference_Implies.f q n a x.f0 x.f1.f0 x.f1.f1 x.f2.f0 x.f2.f1).bind fun bt => (if bt.2 = 0 then (if bt.1 = true then (scarfjointlaw03_DifferenceReduce.l0 q n a l (l.length : Int) ((pre ++ [x]).length : Int)) else (some false)) else (some false))) (fun q => ?_) ?_
    · rw [scarfjointlaw03_DifferenceReduce.l0, if_pos (by omega), if_pos (by omega), if_pos (by omega), rdT26_at h, hw]
    · have hxl : x ∈ l := by rw [h]; simp
      have he := implies_ev n a x (b := true) ⟨fun _ => hi x hxl, fun _ => rfl⟩
      unfold impR at he
      rw [if_pos ha, if_pos (hx x hxl)] at he
      refine Ev.bind he ?_
      exact Ev.ite_pos rfl (Ev.ite_pos rfl (all_loop n l a hl ha hx hi rest (pre ++ [x]) (by rw [h]; simp)))

theorem reduce_law (n : Int) (l : List S26) : Ev (fun q => scarfjointlaw03_DifferenceReduce.f q n l) true := by
  unfold scarfjointlaw03_DifferenceReduce.f
  refine Ev.bind awake_ev ?_
  refine Ev.ite_pos rfl ?_
  by_cases hl : l.length ≤ 45
  · refine Ev.step (f := fun q => (api_Test_14.f l).bind fun t374 => ((difference_Reduce.f q n t374).bind fun bt377 => ((scarfjointref03_Reduce.f q n l).bind fun bt381 => ((scarfjointref03_SameTests.f q bt377.1 bt381.1).bind fun t385 => (if t385 = true then (if bt377.2 = bt381.2 then (scarfjointlaw03_DifferenceReduce.j1 q n l bt377.1 bt377.2 bt381.1 bt381.2 (bt377.2 != 0)) else (scarfjointlaw03_DifferenceReduce.j1 q n l bt377.1 bt377.2 bt381.1 bt381.2 true)) else (scarfjointlaw03_DifferenceReduce.j1 q n l bt377.1 bt377.2 bt381.1 bt381.2 true)))))) (fun q => ?_) ?_
    · rw [scarfjointlaw03_DifferenceReduce.j0, if_neg (by simp; omega)]
    · refine Ev.const_bind (clone_test hl) ?_
      refine Ev.bind (red_ev n l) ?_
      refine Ev.bind (Red_ev n l) ?_
      by_cases h : errV n l = 0
      · rw [if_pos h]
        obtain ⟨h0, h12, h40, hv⟩ := errV_zero h
        have hlen := redL_len n l []
        simp only [List.length_nil] at hlen
        refine Ev.bind (same_ev _ (by simp only; omega)) ?_
        refine Ev.ite_pos rfl (Ev.ite_pos rfl ?_)
        refine Ev.step (f := fun q => scarfjointlaw03_DifferenceReduce.l0 q n (redL n l []) l (l.length : Int) 0) (fun q => ?_) ?_
        · rw [scarfjointlaw03_DifferenceReduce.j1, if_neg (by simp)]
        · exact all_loop n l _ (by omega) (errV_of h0 h12 (by omega) (redL_sub n l [] hv (fun x hx => by cases hx))) hv (redL_imp n l []) l [] rfl
      · rw [if_neg h]
        refine Ev.bind (same_ev [] (by simp)) ?_
        refine Ev.ite_pos rfl (Ev.ite_pos rfl ?_)
        refine Ev.step (f := fun q => (scarfjointref03_SameTests.f q [] []).bind fun t386 => (if t386 = true then (some (errV n l == errV n l)) else (some false))) (fun q => ?_) ?_
        · rw [scarfjointlaw03_DifferenceReduce.j1, if_pos (by simpa using h)]
        · refine Ev.bind (same_ev [] (by simp)) (Ev.ite_pos rfl ?_)
          simpa using Ev.now true
  · refine Ev.step (f := fun q => (scarfjointlaw03_awake.f q).bind fun t => some t) (fun q => ?_) awake_some
    rw [scarfjointlaw03_DifferenceReduce.j0, if_pos (by simp; omega)]
end Go.Proofs.Yteebkkdbkkibmaa.Pure
