/- What the program's function distances comes to: the best solution that is at most 0, if there is a solution. Conditions: up to 13 places, arcs between them, numbers up to 3000000 in size, at most 1000 arcs. -/
import Derived.Test.YteebkkdbkkibmaaPr5
import Derived.Test.YteebkkdbkkibmaaPa
import Derived.Test.YteebkkdbkkibmaaBf
namespace Go.Proofs.Yteebkkdbkkibmaa.Pure
open Go.RowKit Go.Proofs.Yteebkkdbkkibmaa.Pr Go.Proofs.YteebkkdbkkibmaaW.PrintWords Go.Proofs.YteebkkdbkkibmaaW.PrintLast Go.Proofs.Yteebkkdbkkibmaa.Bf
set_option linter.unusedVariables false

def tab (N : Nat) (D : Nat → Int) : List Int := (List.range N).map D
theorem tab_len (N : Nat) (D : Nat → Int) : (tab N D).length = N := by simp [tab]
theorem tab_rd {N : Nat} {D : Nat → Int} {x : Int} (h0 : 0 ≤ x) (h1 : x < N) : rd (tab N D) x = D x.toNat := by
  unfold rd tab
  rw [List.getD_eq_getElem?_getD, List.getElem?_map, List.getElem?_range (by omega)]
  rfl
theorem tab_set {N : Nat} {D : Nat → Int} {i : Nat} {v : Int} : (tab N D).set i v = tab N (upd D i v) := by
  apply List.ext_getElem?
  intro j
  rw [List.getElem?_set, tab_len]
  unfold tab upd
  by_cases hj : j < N
  · rw [List.getElem?_map, List.getElem?_map, List.getElem?_range hj]
    by_cases hij : i = j
    · subst hij; simp [hj]
    · simp [hij, show ¬ j = i from fun h => hij h.symm]
  · rw [List.getElem?_eq_none (by simp; omega), List.getElem?_eq_none (by simp; omega)]
    by_cases hij : i = j
    · subst hij; simp [hj]
    · simp [hij]
theorem tab_congr {N : Nat} {D E : Nat → Int} (h : ∀ i, i < N → D i = E i) : tab N D = tab N E := List.map_congr_left fun i hi => h i (List.mem_range.1 hi)

def goodA (N : Nat) (a : S71) : Prop := 0 ≤ a.f1 ∧ a.f1 < N ∧ 0 ≤ a.f2 ∧ a.f2 < N ∧ -3000000 ≤ a.f3 ∧ a.f3 ≤ 3000000
def good (N : Nat) (l : List S71) : Prop := ∀ a ∈ l, goodA N a
def toA (a : S71) : Arc := ⟨a.f1.toNat, a.f2.toNat, a.f3⟩
theorem good_inN {N : Nat} {l : List S71} (h : good N l) : InN N (l.map toA) := by
  intro a ha
  obtain ⟨b, hb, rfl⟩ := List.mem_map.1 ha
  have := h b hb
  unfold goodA at this
  simp only [toA]
  omega
theorem rdT71_at {l : List S71} {pre rest : List S71} {x : S71} (h : l = pre ++ x :: rest) : rd_T71 l (pre.length : Int) = x := by
  subst h; simp [rd_T71]
def chg : (Nat → Int) → List Arc → Bool
  | _, [] => false
  | D, a :: l => if D a.t + a.c < D a.s then true else chg D l
theorem chg_stays : ∀ (l : List Arc) (D : Nat → Int), chg D l = false ↔ stays D l
  | [], D => by simp [chg, stays]
  | a :: l, D => by
    unfold chg
    by_cases h : D a.t + a.c < D a.s
    · rw [if_pos h]
      exact ⟨fun h1 => by simp at h1, fun h1 => absurd h (h1 a (by simp))⟩
    · rw [if_neg h, chg_stays l D]
      exact ⟨fun h1 b hb => by
        rcases List.mem_cons.1 hb with rfl | hb
        · exact h
        · exact h1 b hb, fun h1 b hb => h1 b (by simp [hb])⟩
def within (B : Int) (D : Nat → Int) : Prop := ∀ i, -B ≤ D i ∧ D i ≤ 0
theorem relax_within {B : Int} {D : Nat → Int} {a : Arc} (h : within B D) (hc : -3000000 ≤ a.c) : within (B + 3000000) (relax D a) := by
  intro i
  have h1 := relax_le D a i
  have h2 := h i
  have h3 := h a.t
  refine ⟨?_, by omega⟩
  unfold relax upd
  split
  · simp only; split <;> omega
  · omega

theorem d_inner {N : Nat} (hN : N ≤ 13) {l : List S71} (hg : good N l) (hl : l.length ≤ 1000) (n2 r : Int) {R : List Int × Bool} : ∀ (rest pre : List S71) (D : Nat → Int) (ch : Bool) (B : Int), l = pre ++ rest → within B D → B + rest.length * 3000000 ≤ 1000000000000 →
    Ev (fun q => if (ch || chg D (rest.map toA)) = true then difference_distances.l0 q l (tab N (pass D (rest.map toA))) n2 (wrap64 (r + 1)) else some (tab N (pass D (rest.map toA)), true)) R →
    Ev (fun q => difference_distances.l1 q l (tab N D) ch n2 r l (l.length : Int) (pre.length : Int)) R
  | [], pre, D, ch, B, h, hB, hb, hR => by
    refine Ev.step (fun q => ?_) hR
    rw [difference_distances.l1, if_neg (by rw [h]; simp)]
    simp [chg, pass]
  | a :: rest, pre, D, ch, B, h, hB, hb, hR => by
    have hlen : pre.length < l.length := by rw [h]; simp
    have hga := hg a (by rw [h]; simp)
    unfold goodA at hga
    simp only [List.length_cons] at hb
    have hw : wrap64 ((pre.length : Int) + 1) = ((pre ++ [a]).length : Int) := by rw [w64 (by omega)]; simp
    have hD2 := hB a.f2.toNat
    have hws : wrap64 (D a.f2.toNat + a.f3) = D a.f2.toNat + a.f3 := w64 (by omega)
    have ht1 : (toA a).s = a.f1.toNat := rfl
    have ht2 : (toA a).t = a.f2.toNat := rfl
    have ht3 : (toA a).c = a.f3 := rfl
    by_cases hlt : D a.f2.toNat + a.f3 < D a.f1.toNat
    · have ih := d_inner hN hg hl n2 r (R := R) rest (pre ++ [a]) (relax D (toA a)) true (B + 3000000) (by rw [h]; simp) (relax_within hB (by rw [ht3]; omega)) (by omega) (by
        refine Ev.congr (fun q => ?_) hR
        have hc : chg D ((a :: rest).map toA) = true := if_pos hlt
        have hp : pass D ((a :: rest).map toA) = pass (relax D (toA a)) (rest.map toA) := rfl
        rw [hc, hp, Bool.or_true, Bool.true_or])
      refine Ev.step (fun q => ?_) ih
      rw [difference_distances.l1, if_pos (by omega), if_pos (by omega), if_pos (by omega), rdT71_at h, if_pos (by omega), tab_len, if_pos (by omega), if_pos (by omega), if_pos (by omega), tab_rd (by omega) (by omega), tab_rd (by omega) (by omega), hws, if_pos hlt, tab_set, hw]
      unfold relax
      rw [ht1, ht2, ht3, if_pos hlt]
    · have hrel : relax D (toA a) = D := if_neg hlt
      have ih := d_inner hN hg hl n2 r (R := R) rest (pre ++ [a]) D ch B (by rw [h]; simp) hB (by omega) (by
        refine Ev.congr (fun q => ?_) hR
        have hc : chg D ((a :: rest).map toA) = chg D (rest.map toA) := if_neg hlt
        have hp : pass D ((a :: rest).map toA) = pass D (rest.map toA) := by
          show pass (relax D (toA a)) (rest.map toA) = _
          rw [hrel]
        rw [hc, hp])
      refine Ev.step (fun q => ?_) ih
      rw [difference_distances.l1, if_pos (by omega), if_pos (by omega), if_pos (by omega), rdT71_at h, if_pos (by omega), tab_len, if_pos (by omega), if_pos (by omega), if_pos (by omega), tab_rd (by omega) (by omega), tab_rd (by omega) (by omega), hws, if_neg hlt, hw]

theorem pass_within {B : Int} : ∀ (l : List Arc) (D : Nat → Int), within B D → (∀ a ∈ l, -3000000 ≤ a.c) → within (B + l.length * 3000000) (pass D l)
  | [], D, h, _ => by simpa [pass] using h
  | a :: l, D, h, hc => by
    have := pass_within l (relax D a) (relax_within h (hc a (by simp))) (fun b hb => hc b (by simp [hb]))
    have he : B + 3000000 + (l.length : Int) * 3000000 = B + ((a :: l).length : Int) * 3000000 := by simp only [List.length_cons]; omega
    rw [he] at this
    exact this
theorem rounds_within {l : List Arc} (hc : ∀ a ∈ l, -3000000 ≤ a.c) : ∀ k : Nat, within ((k : Int) * (l.length * 3000000)) (rounds l k)
  | 0 => fun i => by simp [rounds]
  | k + 1 => by
    have := pass_within l (rounds l k) (rounds_within hc k) hc
    have he : (k : Int) * (l.length * 3000000) + (l.length : Int) * 3000000 = ((k + 1 : Nat) : Int) * (l.length * 3000000) := by
      rw [show ((k + 1 : Nat) : Int) = (k : Int) + 1 by omega, Int.add_mul]; omega
    rw [he] at this
    exact this

theorem d_outer {N : Nat} (hN0 : 1 ≤ N) (hN : N ≤ 13) {l : List S71} (hg : good N l) (hl : l.length ≤ 1000) {R : List Int × Bool} (hR : (Feas (l.map toA) → R = (tab N (best (l.map toA) (fun _ => 0) N), true)) ∧ (¬ Feas (l.map toA) → R = ([], false))) :
    ∀ (m r : Nat), r + m = N + 1 → (∀ r', r' < r → ¬ stays (rounds (l.map toA) r') (l.map toA)) → Ev (fun q => difference_distances.l0 q l (tab N (rounds (l.map toA) r)) ((N : Int) + 1) (r : Int)) R
  | 0, r, hr, hno => by
    have hnf : ¬ Feas (l.map toA) := fun hf => hno N (by omega) (rounds_stay (good_inN hg) hf)
    rw [hR.2 hnf]
    refine Ev.step (f := fun _ => some ([], false)) (fun q => ?_) (Ev.now _)
    rw [difference_distances.l0, if_neg (by omega)]
  | m + 1, r, hr, hno => by
    have hw : wrap64 ((r : Int) + 1) = ((r + 1 : Nat) : Int) := by rw [w64 (by omega)]; omega
    have hcs : ∀ a ∈ l.map toA, -3000000 ≤ a.c := by
      intro a ha
      obtain ⟨b, hb, rfl⟩ := List.mem_map.1 ha
      have := hg b hb
      unfold goodA at this
      simp only [toA]
      omega
    have hwi := rounds_within hcs r
    have hbd : (r : Int) * ((l.map toA).length * 3000000) ≤ 13 * (1000 * 3000000) := by
      rw [List.length_map]
      refine Int.mul_le_mul (by omega) (by omega) (by omega) (by omega)
    refine Ev.step (f := fun q => difference_distances.l1 q l (tab N (rounds (l.map toA) r)) false ((N : Int) + 1) (r : Int) l (l.length : Int) (([] : List S71).length : Int)) (fun q => by rw [difference_distances.l0, if_pos (by omega)]; rfl) ?_
    refine d_inner hN hg hl _ _ l [] _ false ((r : Int) * ((l.map toA).length * 3000000)) rfl hwi (by omega) ?_
    simp only [Bool.false_or]
    by_cases hst : stays (rounds (l.map toA) r) (l.map toA)
    · rw [(chg_stays _ _).2 hst, pass_stays _ _ hst, stay_best (good_inN hg) hst]
      have hf : Feas (l.map toA) := ⟨_, stays_sat hst⟩
      rw [hR.1 hf]
      exact Ev.ite_neg (by simp) (Ev.now _)
    · have hc : chg (rounds (l.map toA) r) (l.map toA) = true := by
        cases hcc : chg (rounds (l.map toA) r) (l.map toA) with
        | true => rfl
        | false => exact absurd ((chg_stays _ _).1 hcc) hst
      rw [hc]
      refine Ev.ite_pos rfl ?_
      rw [hw]
      exact d_outer hN0 hN hg hl hR m (r + 1) (by omega) (fun r' hr' => by
        by_cases he : r' = r
        · rw [he]; exact hst
        · exact hno r' (by omega))

theorem dist_ev {n : Int} (h0 : 0 ≤ n) (h12 : n ≤ 12) {l : List S71} (hg : good (n.toNat + 1) l) (hl : l.length ≤ 1000) {R : List Int × Bool} (hR : (Feas (l.map toA) → R = (tab (n.toNat + 1) (best (l.map toA) (fun _ => 0) (n.toNat + 1)), true)) ∧ (¬ Feas (l.map toA) → R = ([], false))) :
    Ev (fun q => difference_distances.f q n l) R := by
  have h := d_outer (N := n.toNat + 1) (by omega) (by omega) hg hl hR (n.toNat + 2) 0 (by omega) (fun r' h => by omega)
  have hw1 : wrap64 (n + 1) = ((n.toNat + 1 : Nat) : Int) := by rw [w64 (by omega)]; omega
  have hw2 : wrap64 (n + 2) = ((n.toNat + 1 : Nat) : Int) + 1 := by rw [w64 (by omega)]; omega
  refine Ev.congr (fun q => ?_) h
  unfold difference_distances.f
  rw [hw1, if_pos (by omega), if_pos (by omega), hw2]
  have ht : List.replicate ((n.toNat + 1 : Nat) : Int).toNat (0 : Int) = tab (n.toNat + 1) (rounds (l.map toA) 0) := by
    rw [Int.toNat_natCast]
    unfold tab
    apply List.ext_getElem
    · rw [List.length_replicate, List.length_map, List.length_range]
    · intro i _ _
      rw [List.getElem_replicate, List.getElem_map]; rfl
  rw [ht]; rfl
end Go.Proofs.Yteebkkdbkkibmaa.Pure
