/- What the functions Implies come to, at the program and at the reference: one answer. Conditions: at most 400 tests. -/
import Derived.Test.YteebkkdbkkibmaaPr6
import Derived.Test.YteebkkdbkkibmaaPr7
import Derived.Test.YteebkkdbkkibmaaPr18
import Derived.Test.YteebkkdbkkibmaaPr12
import Derived.Test.YteebkkdbkkibmaaPd
namespace Go.Proofs.Yteebkkdbkkibmaa.Pure
open Go.RowKit Go.Proofs.Yteebkkdbkkibmaa.Pr Go.Proofs.YteebkkdbkkibmaaW.PrintWords Go.Proofs.YteebkkdbkkibmaaW.PrintLast Go.Proofs.YteebkkdbkkibmaaW.PrintMore Go.Proofs.Yteebkkdbkkibmaa.Bf
set_option linter.unusedVariables false

theorem awake_ev : Ev (fun q => scarfjointlaw03_awake.f q) true := Ev.of scarfjointlaw03_awake.mono (k := 60) (by decide +kernel)

/-! ### Valid tests have good arcs -/
theorem arcsX_good {n : Int} (h0 : 0 ≤ n) (h12 : n ≤ 12) {x : S26} (h : errOf n x = 0) (i : Int) : good (n.toNat + 1) (arcsX i x) := by
  unfold errOf errOne at h
  split at h
  · omega
  · split at h
    · rename_i hk ht
      obtain ⟨h1, h2⟩ := ht
      simp only [termOk, Bool.and_eq_true, decide_eq_true_eq] at h1 h2
      have w1 : wrap64 (x.f1.f0 + 1) = x.f1.f0 + 1 := w64 (by omega)
      have w2 : wrap64 (x.f2.f0 + 1) = x.f2.f0 + 1 := w64 (by omega)
      have w3 : wrap64 (x.f2.f1 - x.f1.f1) = x.f2.f1 - x.f1.f1 := w64 (by omega)
      have w4 : wrap64 (-(x.f2.f1 - x.f1.f1)) = -(x.f2.f1 - x.f1.f1) := w64 (by omega)
      have g1 : goodA (n.toNat + 1) (arc1 i x) := by unfold goodA arc1; simp only; rw [w1, w2, w3]; omega
      have g2 : goodA (n.toNat + 1) (arc2 i x) := by unfold goodA arc2; simp only; rw [w1, w2, w3, w4]; omega
      unfold arcsX
      split
      · intro a ha
        rcases List.mem_cons.1 ha with rfl | ha
        · exact g1
        · rcases List.mem_cons.1 ha with rfl | ha
          · exact g2
          · cases ha
      · intro a ha
        rcases List.mem_cons.1 ha with rfl | ha
        · exact g1
        · cases ha
    · omega
theorem errL_zero {n : Int} : ∀ {l : List S26}, errL n l = 0 → ∀ x ∈ l, errOf n x = 0
  | [], _ => fun x hx => by cases hx
  | y :: l, h => by
    unfold errL at h
    split at h
    · rename_i h1
      intro x hx
      rcases List.mem_cons.1 hx with rfl | hx
      · exact h1
      · exact errL_zero h x hx
    · rename_i h1; exact absurd h h1
theorem arcsF_good {n : Int} (h0 : 0 ≤ n) (h12 : n ≤ 12) : ∀ (l : List S26) (i : Nat), (∀ x ∈ l, errOf n x = 0) → good (n.toNat + 1) (arcsF i l)
  | [], i, _ => fun a ha => by cases ha
  | x :: l, i, h => fun a ha => by
    rcases List.mem_append.1 ha with ha | ha
    · exact arcsX_good h0 h12 (h x (by simp)) _ a ha
    · exact arcsF_good h0 h12 l (i + 1) (fun y hy => h y (by simp [hy])) a ha
theorem errV_zero {n : Int} {l : List S26} (h : errV n l = 0) : 0 ≤ n ∧ n ≤ 12 ∧ l.length ≤ 40 ∧ ∀ x ∈ l, errOf n x = 0 := by
  unfold errV at h
  split at h
  · omega
  · split at h
    · omega
    · exact ⟨by omega, by omega, by omega, errL_zero h⟩

/-! ### Implied -/
def Imp (l : List Arc) (a : Arc) : Prop := ∀ v, Sat v l → v a.s ≤ v a.t + a.c
theorem imp_infeas (l : List Arc) (a : Arc) : Imp l a ↔ ¬ Feas (l ++ [⟨a.t, a.s, -a.c - 1⟩]) := by
  constructor
  · rintro h ⟨v, hv⟩
    have h1 := h v (fun b hb => hv b (List.mem_append_left _ hb))
    have h2 := hv ⟨a.t, a.s, -a.c - 1⟩ (List.mem_append_right _ (by simp))
    simp only at h2
    omega
  · intro h v hv
    apply Classical.byContradiction
    intro hn
    refine h ⟨v, fun b hb => ?_⟩
    rcases List.mem_append.1 hb with hb | hb
    · exact hv b hb
    · rw [List.mem_singleton.1 hb]
      simp only
      omega
theorem table_implied {l : List Arc} {N K : Nat} (hs : small l) (hl : InN N l) (hf : Feas l) (hN : N ≤ K) (hK : K ≤ 100) (i j : Nat) (c : Int) (hc : c < far) : bestT l K i j ≤ c ↔ Imp l ⟨i, j, c⟩ := by
  constructor
  · intro h v hv
    rcases (best_spec hs K hK i j).1 with h1 | ⟨w, hw, _, h1⟩
    · omega
    · have := walk_sat hv w i j hw
      simp only
      omega
  · intro h
    have hM := best_sat hl (feas_closed hf) (fun k => if k = j then 0 else max c 0 + 1 + N * 3000000)
    have h1 := h _ hM
    simp only at h1
    have h2 := best_le (l := l) (init := fun k => if k = j then 0 else max c 0 + 1 + N * 3000000) N [] j j rfl (by simp)
    simp only [wsum, if_pos] at h2
    obtain ⟨w, k, hw, hlen, h3⟩ := best_eq (l := l) (init := fun k => if k = j then 0 else max c 0 + 1 + N * 3000000) N i
    have h4 := wsum_small hs w i k hw
    by_cases hk : k = j
    · subst hk
      rw [if_pos rfl] at h3
      have := (best_spec hs K hK i k).2 w hw (by omega)
      omega
    · rw [if_neg hk] at h3
      have : (w.length : Int) * 3000000 ≤ N * 3000000 := Int.mul_le_mul_of_nonneg_right (by omega) (by omega)
      omega

theorem map_append_toA (l : List S71) (a : S71) : (l ++ [a]).map toA = l.map toA ++ [toA a] := by simp
theorem implied_ev {n : Int} (h0 : 0 ≤ n) (h12 : n ≤ 12) {L : List S71} (hL : L.length ≤ 900) (hg : good (n.toNat + 1) L) (a : S71) (hga : goodA (n.toNat + 1) a) (hsm : -2000000 ≤ a.f3 ∧ a.f3 ≤ 2000000) {b : Bool} (hb : b = true ↔ Imp (L.map toA) (toA a)) :
    Ev (fun q => difference_implied.f q n L a.f0.f0 a.f0.f1 a.f1 a.f2 a.f3) b := by
  unfold goodA at hga
  have w1 : wrap64 (-a.f3) = -a.f3 := w64 (by omega)
  have w2 : wrap64 (-a.f3 - 1) = -a.f3 - 1 := w64 (by omega)
  have hg2 : good (n.toNat + 1) (L ++ [⟨⟨0, 0⟩, a.f2, a.f1, -a.f3 - 1⟩]) := by
    intro x hx
    rcases List.mem_append.1 hx with hx | hx
    · exact hg x hx
    · rw [List.mem_singleton.1 hx]; unfold goodA; simp only; omega
  have hd := imp_infeas (L.map toA) (toA a)
  have he : (L ++ [(⟨⟨0, 0⟩, a.f2, a.f1, -a.f3 - 1⟩ : S71)]).map toA = L.map toA ++ [⟨(toA a).t, (toA a).s, -(toA a).c - 1⟩] := map_append_toA _ _
  unfold difference_implied.f
  refine Ev.const_bind (a := L) (by unfold difference_arc_64.f; simp only [Option.bind_some, List.length_nil, List.nil_append]; rw [if_pos (by omega)]) ?_
  rw [w1, w2]
  refine Ev.some_bind ?_
  refine Ev.ite_pos (by simp; omega) ?_
  cases b with
  | true =>
    have hnf : ¬ Feas ((L ++ [(⟨⟨0, 0⟩, a.f2, a.f1, -a.f3 - 1⟩ : S71)]).map toA) := by rw [he]; exact hd.1 (hb.1 rfl)
    exact Ev.bind (dist_ev h0 h12 hg2 (by simp; omega) (R := ([], false)) ⟨fun hf => absurd hf hnf, fun _ => rfl⟩) (Ev.now true)
  | false =>
    have hf : Feas ((L ++ [(⟨⟨0, 0⟩, a.f2, a.f1, -a.f3 - 1⟩ : S71)]).map toA) := Classical.byContradiction fun hnf => by
      rw [he] at hnf
      have := hb.2 (hd.2 hnf)
      cases this
    exact Ev.bind (dist_ev h0 h12 hg2 (by simp; omega) (R := (_, true)) ⟨fun _ => rfl, fun hnf => absurd hf hnf⟩) (Ev.now false)

theorem Imp_loop {n : Int} (h0 : 0 ≤ n) (h12 : n ≤ 12) {l : List S26} (hl : l.length ≤ 400) (hv : ∀ x ∈ l, errOf n x = 0) (X : List S71) (hX : X.length ≤ 10) (hgX : good (n.toNat + 1) X) (hsX : ∀ a ∈ X, -2000000 ≤ a.f3 ∧ a.f3 ≤ 2000000) {b : Bool} :
    ∀ (rest pre : List S71), X = pre ++ rest → (b = true ↔ ∀ a ∈ rest, Imp ((arcsF 0 l).map toA) (toA a)) → Ev (fun q => difference_Implies.l0 q n l X (X.length : Int) (pre.length : Int)) (b, 0)
  | [], pre, h, hb => by
    rw [hb.2 (fun a ha => by cases ha)]
    refine Ev.step (f := fun _ => some (true, 0)) (fun q => ?_) (Ev.now _)
    rw [difference_Implies.l0, if_neg (by rw [h]; simp)]
  | a :: rest, pre, h, hb => by
    have hlen : pre.length < X.length := by rw [h]; simp
    have hw : wrap64 ((pre.length : Int) + 1) = ((pre ++ [a]).length : Int) := by rw [w64 (by omega)]; simp
    have hga := hgX a (by rw [h]; simp)
    have hsa := hsX a (by rw [h]; simp)
    have haf := arcsF_len 0 l
    by_cases hi : Imp ((arcsF 0 l).map toA) (toA a)
    · have ih := Imp_loop h0 h12 hl hv X hX hgX hsX (b := b) rest (pre ++ [a]) (by rw [h]; simp) ⟨fun h1 c hc => hb.1 h1 c (by simp [hc]), fun h1 => hb.2 (fun c hc => by
        rcases List.mem_cons.1 hc with rfl | hc
        · exact hi
        · exact h1 c hc)⟩
      refine Ev.step (f := fun q => (difference_arcs.f q l).bind fun t156 => ((difference_implied.f q n t156 a.f0.f0 a.f0.f1 a.f1 a.f2 a.f3).bind fun t159 => (if t159 = true then (difference_Implies.l0 q n l X (X.length : Int) ((pre ++ [a]).length : Int)) else (some (false, 0))))) (fun q => ?_) ?_
      · rw [difference_Implies.l0, if_pos (by omega), if_pos (by omega), if_pos (by omega), rdT71_at h, hw]
      · refine Ev.bind (arcs_ev l (by omega)) ?_
        refine Ev.bind (implied_ev h0 h12 (by omega) (arcsF_good h0 h12 l 0 hv) a hga hsa (b := true) ⟨fun _ => hi, fun _ => rfl⟩) ?_
        exact Ev.ite_pos rfl ih
    · have hbf : b = false := by
        cases b with
        | false => rfl
        | true => exact absurd (hb.1 rfl a (by simp)) hi
      rw [hbf]
      refine Ev.step (f := fun q => (difference_arcs.f q l).bind fun t156 => ((difference_implied.f q n t156 a.f0.f0 a.f0.f1 a.f1 a.f2 a.f3).bind fun t159 => (if t159 = true then (difference_Implies.l0 q n l X (X.length : Int) ((pre ++ [a]).length : Int)) else (some (false, 0))))) (fun q => ?_) ?_
      · rw [difference_Implies.l0, if_pos (by omega), if_pos (by omega), if_pos (by omega), rdT71_at h, hw]
      · refine Ev.bind (arcs_ev l (by omega)) ?_
        refine Ev.bind (implied_ev h0 h12 (by omega) (arcsF_good h0 h12 l 0 hv) a hga hsa (b := false) ⟨fun h => by simp at h, fun h => absurd h hi⟩) ?_
        exact Ev.ite_neg (by simp) (Ev.now _)

theorem Imp_ref_loop {n : Int} (h0 : 0 ≤ n) (h12 : n ≤ 12) {A : List Arc} (hs : small A) (hin : InN (n.toNat + 1) A) (hf : Feas A) (X : List S71) (hX : X.length ≤ 10) (hgX : good (n.toNat + 1) X) {b : Bool} :
    ∀ (rest pre : List S71), X = pre ++ rest → (b = true ↔ ∀ a ∈ rest, Imp A (toA a)) → Ev (fun q => scarfjointref03_Implies.l0 q (tab2 (n.toNat + 1) (bestT A (n.toNat + 2))) (X.map to79) (pre.length : Int)) (b, 0)
  | [], pre, h, hb => by
    rw [hb.2 (fun a ha => by cases ha)]
    refine Ev.step (f := fun _ => some (true, 0)) (fun q => ?_) (Ev.now _)
    rw [scarfjointref03_Implies.l0, if_neg (by rw [h]; simp)]
  | a :: rest, pre, h, hb => by
    have hlen : pre.length < X.length := by rw [h]; simp
    have hw : wrap64 ((pre.length : Int) + 1) = ((pre ++ [a]).length : Int) := by rw [w64 (by omega)]; simp
    have hga := hgX a (by rw [h]; simp)
    unfold goodA at hga
    have e1 : (to79 a).f1 = a.f1 := rfl
    have e2 : (to79 a).f2 = a.f2 := rfl
    have e3 : (to79 a).f3 = a.f3 := rfl
    have ht := table_implied (K := n.toNat + 2) hs hin hf (by omega) (by omega) a.f1.toNat a.f2.toNat a.f3 (by unfold far; omega)
    by_cases hi : bestT A (n.toNat + 2) a.f1.toNat a.f2.toNat ≤ a.f3
    · have ih := Imp_ref_loop h0 h12 hs hin hf X hX hgX (b := b) rest (pre ++ [a]) (by rw [h]; simp) ⟨fun h1 c hc => hb.1 h1 c (by simp [hc]), fun h1 => hb.2 (fun c hc => by
        rcases List.mem_cons.1 hc with rfl | hc
        · exact ht.1 hi
        · exact h1 c hc)⟩
      refine Ev.step (fun q => ?_) ih
      rw [scarfjointref03_Implies.l0, List.length_map, if_pos (by omega), if_pos (by omega), rdT79_at h, e1, e2, e3, if_pos (by omega), tab2_len, if_pos (by omega), if_pos (by omega), tab2_rd (by omega) (by omega), tab_len, if_pos (by omega), tab_rd (by omega) (by omega), if_neg (by omega), hw]
    · have hbf : b = false := by
        cases b with
        | false => rfl
        | true => exact absurd (ht.2 (hb.1 rfl a (by simp))) hi
      rw [hbf]
      refine Ev.step (f := fun _ => some (false, 0)) (fun q => ?_) (Ev.now _)
      rw [scarfjointref03_Implies.l0, List.length_map, if_pos (by omega), if_pos (by omega), rdT79_at h, e1, e2, e3, if_pos (by omega), tab2_len, if_pos (by omega), if_pos (by omega), tab2_rd (by omega) (by omega), tab_len, if_pos (by omega), tab_rd (by omega) (by omega), if_pos (by omega)]

/-- Do the tests l imply the test x? -/
def ImpX (l : List S26) (x : S26) : Prop := ∀ a ∈ arcsX 0 x, Imp ((arcsF 0 l).map toA) (toA a)
theorem arcsX_two {n : Int} {x : S26} (h : errOf n x = 0) (i : Int) : ∀ a ∈ arcsX i x, -2000000 ≤ a.f3 ∧ a.f3 ≤ 2000000 := by
  unfold errOf errOne at h
  split at h
  · omega
  · split at h
    · rename_i hk ht
      obtain ⟨h1, h2⟩ := ht
      simp only [termOk, Bool.and_eq_true, decide_eq_true_eq] at h1 h2
      have w3 : wrap64 (x.f2.f1 - x.f1.f1) = x.f2.f1 - x.f1.f1 := w64 (by omega)
      have w4 : wrap64 (-(x.f2.f1 - x.f1.f1)) = -(x.f2.f1 - x.f1.f1) := w64 (by omega)
      intro a ha
      unfold arcsX at ha
      split at ha
      · rcases List.mem_cons.1 ha with rfl | ha
        · unfold arc1; simp only; rw [w3]; omega
        · rcases List.mem_cons.1 ha with rfl | ha
          · unfold arc2; simp only; rw [w3, w4]; omega
          · cases ha
      · rcases List.mem_cons.1 ha with rfl | ha
        · unfold arc1; simp only; rw [w3]; omega
        · cases ha
    · omega
/-- The answer of Implies. -/
def impR (n : Int) (l : List S26) (x : S26) (b : Bool) : Bool × Int := if errV n l = 0 then (if errOf n x = 0 then (b, 0) else (false, errOf n x)) else (false, errV n l)
theorem implies_ev (n : Int) (l : List S26) (x : S26) {b : Bool} (hb : b = true ↔ ImpX l x) : Ev (fun q => difference_Implies.f q n l x.f0 x.f1.f0 x.f1.f1 x.f2.f0 x.f2.f1) (impR n l x b) := by
  unfold difference_Implies.f impR
  refine Ev.bind (valid_ev n l) ?_
  by_cases h1 : errV n l = 0
  · rw [if_pos h1]
    refine Ev.ite_pos h1 ?_
    refine Ev.bind (one_ev n _ _ _ _ _) ?_
    obtain ⟨h0, h12, h40, hv⟩ := errV_zero h1
    by_cases h2 : errOf n x = 0
    · rw [if_pos h2]
      refine Ev.ite_pos h2 ?_
      have he : arcsF 0 [(⟨x.f0, (⟨x.f1.f0, x.f1.f1⟩ : S24), (⟨x.f2.f0, x.f2.f1⟩ : S24)⟩ : S26)] = arcsX 0 x := by simp [arcsF]
      have ha := arcs_ev [(⟨x.f0, (⟨x.f1.f0, x.f1.f1⟩ : S24), (⟨x.f2.f0, x.f2.f1⟩ : S24)⟩ : S26)] (by simp)
      rw [he] at ha
      refine Ev.bind ha ?_
      have hXl := arcsX_len 0 x
      exact Imp_loop h0 h12 (by omega) hv (arcsX 0 x) (by omega) (arcsX_good h0 h12 h2 0) (arcsX_two h2 0) (arcsX 0 x) [] rfl hb
    · rw [if_neg h2]
      exact Ev.ite_neg h2 (Ev.now _)
  · rw [if_neg h1]
    exact Ev.ite_neg h1 (Ev.now _)
theorem Implies_ev (n : Int) (l : List S26) (x : S26) {b : Bool} (hb : b = true ↔ ImpX l x) : Ev (fun q => scarfjointref03_Implies.f q n l x.f0 x.f1.f0 x.f1.f1 x.f2.f0 x.f2.f1) (impR n l x b) := by
  unfold scarfjointref03_Implies.f impR
  refine Ev.bind (Valid_ev n l) ?_
  by_cases h1 : errV n l = 0
  · rw [if_pos h1]
    refine Ev.ite_pos h1 ?_
    refine Ev.bind (One_ev n _ _ _ _ _) ?_
    obtain ⟨h0, h12, h40, hv⟩ := errV_zero h1
    by_cases h2 : errOf n x = 0
    · rw [if_pos h2]
      refine Ev.ite_pos h2 ?_
      have hgA := arcsF_good h0 h12 l 0 hv
      by_cases hf : Feas ((arcsF 0 l).map toA)
      · refine Ev.bind (Dists_ev h0 h12 (L := l) (by omega) hgA (R := (_, true)) ⟨fun _ => rfl, fun h => absurd hf h⟩) ?_
        refine Ev.ite_pos rfl ?_
        have he : arcsF 0 [(⟨x.f0, (⟨x.f1.f0, x.f1.f1⟩ : S24), (⟨x.f2.f0, x.f2.f1⟩ : S24)⟩ : S26)] = arcsX 0 x := by simp [arcsF]
        have ha := Arcs_ev [(⟨x.f0, (⟨x.f1.f0, x.f1.f1⟩ : S24), (⟨x.f2.f0, x.f2.f1⟩ : S24)⟩ : S26)] (by simp)
        rw [he] at ha
        refine Ev.bind ha ?_
        have hXl := arcsX_len 0 x
        exact Imp_ref_loop h0 h12 (good_small hgA) (good_inN hgA) hf (arcsX 0 x) (by omega) (arcsX_good h0 h12 h2 0) (arcsX 0 x) [] rfl hb
      · have hbt : b = true := hb.2 (fun a _ v hv => absurd ⟨v, hv⟩ hf)
        rw [hbt]
        refine Ev.bind (Dists_ev h0 h12 (L := l) (by omega) hgA (R := ([], false)) ⟨fun h => absurd h hf, fun _ => rfl⟩) ?_
        exact Ev.ite_neg (by simp) (Ev.now _)
    · rw [if_neg h2]
      exact Ev.ite_neg h2 (Ev.now _)
  · rw [if_neg h1]
    exact Ev.ite_neg h1 (Ev.now _)
end Go.Proofs.Yteebkkdbkkibmaa.Pure
