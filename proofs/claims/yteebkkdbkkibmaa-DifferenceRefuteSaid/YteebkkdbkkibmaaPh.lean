/- What the program's functions fresh, longer, closed and Refute come to: the least sums of walks of each length, and the list read out of these. Conditions: up to 13 places, numbers up to 3000000 in size, at most 1000 arcs. -/
import Derived.Test.YteebkkdbkkibmaaPr8
import Derived.Test.YteebkkdbkkibmaaPr9
import Derived.Test.YteebkkdbkkibmaaPr10
import Derived.Test.YteebkkdbkkibmaaPr11
import Derived.Test.YteebkkdbkkibmaaPeA
namespace Go.Proofs.Yteebkkdbkkibmaa.Pure
open Go.RowKit Go.Proofs.Yteebkkdbkkibmaa.Pr Go.Proofs.YteebkkdbkkibmaaW.PrintWords Go.Proofs.YteebkkdbkkibmaaW.PrintLast Go.Proofs.YteebkkdbkkibmaaW.PrintMore Go.Proofs.Yteebkkdbkkibmaa.Bf
set_option linter.unusedVariables false

theorem repeat_eq {N : Nat} (h1 : 1 ≤ N) (hN : N ≤ 13) : slices_Repeat_int_int.f [1125899906842624] (N : Int) = some (tab N (fun _ => far)) := by
  unfold slices_Repeat_int_int.f
  rw [if_pos (by rfl), if_pos (by omega), if_pos (by omega)]
  congr 1
  unfold tab
  apply List.ext_getElem
  · simp
  · intro i h2 h3
    simp [rd, far]
theorem fresh_loop {N : Nat} (h1 : 1 ≤ N) (hN : N ≤ 13) (n : Int) (hn : n + 1 = N) : ∀ (m i : Nat), i + m = N → Ev (fun q => difference_fresh.l0 q n ((List.range i).map fun a => tab N (diag far 0 a)) (N : Int) (i : Int)) (tab2 N (diag far 0))
  | 0, i, hi => by
    obtain rfl : i = N := by omega
    refine Ev.step (f := fun _ => some (tab2 i (diag far 0))) (fun q => ?_) (Ev.now _)
    rw [difference_fresh.l0, if_neg (by omega)]
    rfl
  | m + 1, i, hi => by
    have ih := fresh_loop h1 hN n hn m (i + 1) (by omega)
    rw [← tab2_snoc] at ih
    have hw : wrap64 ((i : Int) + 1) = ((i + 1 : Nat) : Int) := by rw [w64 (by omega)]; omega
    have hwn : wrap64 (n + 1) = (N : Int) := by rw [w64 (by omega)]; omega
    have hs : (tab N (fun _ => far)).set (i : Int).toNat 0 = tab N (diag far 0 i) := by
      rw [tab_set]
      refine tab_congr fun j hj => ?_
      unfold upd diag
      rw [Int.toNat_natCast]
      by_cases h : j = i
      · rw [if_pos h, if_pos h.symm]
      · rw [if_neg h, if_neg (fun h2 => h h2.symm)]
    refine Ev.step (fun q => ?_) ih
    rw [difference_fresh.l0, if_pos (by omega), hwn, repeat_eq h1 hN]
    simp only [Option.bind_some]
    rw [if_pos (by omega), tab_len, if_pos (by omega), if_pos (by simp; omega), hw, hs]
theorem fresh_ev {N : Nat} (h1 : 1 ≤ N) (hN : N ≤ 13) (n : Int) (hn : n + 1 = N) : Ev (fun q => difference_fresh.f q n) (tab2 N (diag far 0)) := by
  have hwn : wrap64 (n + 1) = (N : Int) := by rw [w64 (by omega)]; omega
  unfold difference_fresh.f
  rw [hwn]
  exact fresh_loop h1 hN n hn N 0 (by omega)
theorem longer_inner {N : Nat} (hN : N ≤ 13) (n : Int) (hn : n + 1 = N) {l : List S71} (hl : l.length ≤ 1000) {T : Nat → Nat → Int} (hT : sane T) (O : Nat → Nat → Int) (a : S71) (hg : goodA N a) (i : Nat) (hi : i < l.length) {R : List (List Int)}
    (hR : Ev (fun q => difference_longer.l1 q (tab2 N T) n (tab2 N (stepT T O (toA a))) l (l.length : Int) ((i + 1 : Nat) : Int)) R) :
    ∀ (m j : Nat), j + m = N → Ev (fun q => difference_longer.l2 q (tab2 N T) n (tab2 N (mid T O (toA a) j)) l (l.length : Int) (i : Int) (N : Int) (j : Int) a.f0.f0 a.f0.f1 a.f1 a.f2 a.f3) R
  | 0, j, hj => by
    have hw : wrap64 ((i : Int) + 1) = ((i + 1 : Nat) : Int) := by rw [w64 (by omega)]; omega
    obtain rfl : j = N := by omega
    have he : tab2 j (mid T O (toA a) j) = tab2 j (stepT T O (toA a)) := tab2_congr fun x hx y hy => by unfold mid; rw [if_pos hy]
    rw [he]
    refine Ev.step (fun q => ?_) hR
    rw [difference_longer.l2, if_neg (by omega), hw]
  | m + 1, j, hj => by
    unfold goodA at hg
    have hw : wrap64 ((j : Int) + 1) = ((j + 1 : Nat) : Int) := by rw [w64 (by omega)]; omega
    have ih := longer_inner hN n hn hl hT O a (by unfold goodA; exact hg) i hi hR m (j + 1) (by omega)
    have ht := hT a.f2.toNat j
    have hws : wrap64 (a.f3 + T a.f2.toNat j) = a.f3 + T a.f2.toNat j := w64 (by omega)
    have hjn : (j : Int).toNat = j := by omega
    have hrow : mid T O (toA a) j a.f1.toNat j = O a.f1.toNat j := by unfold mid; rw [if_neg (by omega)]
    by_cases hf : T a.f2.toNat j < far
    · have hf' : T a.f2.toNat j < 1125899906842624 := hf
      have he : tab2 N (mid T O (toA a) (j + 1)) = tab2 N (upd2 (mid T O (toA a) j) a.f1.toNat j (min (O a.f1.toNat j) (a.f3 + T a.f2.toNat j))) := tab2_congr fun x hx y hy => by
        unfold upd2 mid stepT toA
        simp only
        by_cases hx1 : x = a.f1.toNat
        · subst hx1
          rw [if_pos rfl]
          by_cases hy1 : y = j
          · subst hy1
            rw [if_pos rfl, if_pos (by omega), if_pos ⟨rfl, hf⟩]
          · rw [if_neg hy1]
            by_cases hy2 : y < j
            · rw [if_pos hy2, if_pos (by omega)]
            · rw [if_neg hy2, if_neg (by omega)]
        · rw [if_neg hx1]
          by_cases hy2 : y < j
          · rw [if_pos hy2, if_pos (by omega)]
          · rw [if_neg hy2]
            split
            · rw [if_neg (by rintro ⟨h, _⟩; exact hx1 h)]
            · rfl
      rw [he] at ih
      refine Ev.step (fun q => ?_) ih
      rw [difference_longer.l2, if_pos (by omega), if_pos (by omega), tab2_len, if_pos (by omega), if_pos (by omega), tab2_rd (by omega) (by omega), tab_len, if_pos (by omega), tab_rd (by omega) (by omega), hjn, if_pos hf', if_pos (by omega), tab2_len, if_pos (by omega), tab2_rd (by omega) (by omega), tab_len, if_pos (by omega), tab_rd (by omega) (by omega), hjn, hws, mn_min, hrow, tab2_set, hw]
    · have hf' : ¬ T a.f2.toNat j < 1125899906842624 := hf
      have he : tab2 N (mid T O (toA a) (j + 1)) = tab2 N (mid T O (toA a) j) := tab2_congr fun x hx y hy => by
        unfold mid
        by_cases hy2 : y < j
        · rw [if_pos hy2, if_pos (by omega)]
        · rw [if_neg hy2]
          split
          · have : y = j := by omega
            subst this
            unfold stepT toA
            rw [if_neg (by rintro ⟨_, h⟩; exact hf h)]
          · rfl
      rw [he] at ih
      refine Ev.step (fun q => ?_) ih
      rw [difference_longer.l2, if_pos (by omega), if_pos (by omega), tab2_len, if_pos (by omega), if_pos (by omega), tab2_rd (by omega) (by omega), tab_len, if_pos (by omega), tab_rd (by omega) (by omega), hjn, if_neg hf', hw]
theorem longer_outer {N : Nat} (hN : N ≤ 13) (n : Int) (hn : n + 1 = N) {l : List S71} (hl : l.length ≤ 1000) (hg : good N l) {T : Nat → Nat → Int} (hT : sane T) : ∀ (rest pre : List S71) (O : Nat → Nat → Int), l = pre ++ rest →
    Ev (fun q => difference_longer.l1 q (tab2 N T) n (tab2 N O) l (l.length : Int) (pre.length : Int)) (tab2 N ((rest.map toA).foldl (stepT T) O))
  | [], pre, O, h => by
    refine Ev.step (f := fun _ => some (tab2 N O)) (fun q => ?_) (Ev.now _)
    rw [difference_longer.l1, if_neg (by rw [h]; simp)]
  | a :: rest, pre, O, h => by
    have hlen : pre.length < l.length := by rw [h]; simp
    have ih := longer_outer hN n hn hl hg hT rest (pre ++ [a]) (stepT T O (toA a)) (by rw [h]; simp)
    rw [List.length_append, List.length_singleton] at ih
    have h1 := longer_inner hN n hn hl hT O a (hg a (by rw [h]; simp)) pre.length hlen ih N 0 (by omega)
    have he : tab2 N (mid T O (toA a) 0) = tab2 N O := tab2_congr fun x hx y hy => by unfold mid; rw [if_neg (by omega)]
    rw [he] at h1
    have hwn : wrap64 (n + 1) = (N : Int) := by rw [w64 (by omega)]; omega
    refine Ev.step (fun q => ?_) h1
    rw [difference_longer.l1, if_pos (by omega), if_pos (by omega), if_pos (by omega), rdT71_at h, hwn]
    rfl
theorem longer_loop {N : Nat} (h1 : 1 ≤ N) (hN : N ≤ 13) (n : Int) (hn : n + 1 = N) {l : List S71} (hl : l.length ≤ 1000) (hg : good N l) {T : Nat → Nat → Int} (hT : sane T) : ∀ (m i : Nat), i + m = N →
    Ev (fun q => difference_longer.l0 q (tab2 N T) l n ((List.range i).map fun a => tab N ((fun _ _ => far : Nat → Nat → Int) a)) (N : Int) (i : Int)) (tab2 N (fur (l.map toA) T))
  | 0, i, hi => by
    obtain rfl : i = N := by omega
    refine Ev.step (fun q => ?_) (longer_outer hN n hn hl hg hT l [] (fun _ _ => far) rfl)
    rw [difference_longer.l0, if_neg (by omega)]
    rfl
  | m + 1, i, hi => by
    have ih := longer_loop h1 hN n hn hl hg hT m (i + 1) (by omega)
    rw [← tab2_snoc] at ih
    have hw : wrap64 ((i : Int) + 1) = ((i + 1 : Nat) : Int) := by rw [w64 (by omega)]; omega
    have hwn : wrap64 (n + 1) = (N : Int) := by rw [w64 (by omega)]; omega
    refine Ev.step (fun q => ?_) ih
    rw [difference_longer.l0, if_pos (by omega), hwn, repeat_eq h1 hN]
    simp only [Option.bind_some]
    rw [if_pos (by simp; omega), hw]
theorem longer_ev {N : Nat} (h1 : 1 ≤ N) (hN : N ≤ 13) {l : List S71} (hl : l.length ≤ 1000) (hg : good N l) {T : Nat → Nat → Int} (hT : sane T) :
    Ev (fun q => difference_longer.f q (tab2 N T) l) (tab2 N (fur (l.map toA) T)) := by
  have hw1 : wrap64 ((N : Int) - 1) = (N : Int) - 1 := w64 (by omega)
  have hw2 : wrap64 ((N : Int) - 1 + 1) = (N : Int) := by rw [w64 (by omega)]; omega
  unfold difference_longer.f
  rw [tab2_len, hw1, hw2]
  exact longer_loop h1 hN _ (by omega) hl hg hT N 0 (by omega)

theorem closed_loop {N : Nat} (hN : N ≤ 13) (B : Nat → Nat → Int) {b : Bool} (hb : b = true ↔ ∃ i, i < N ∧ B i i < 0) :
    ∀ (m i : Nat), i + m = N → (∀ i', i' < i → ¬ B i' i' < 0) → Ev (fun q => difference_closed.l0 q (tab2 N B) (N : Int) (i : Int)) b
  | 0, i, hi, hno => by
    have hbf : b = false := by
      cases b with
      | false => rfl
      | true => obtain ⟨j, hj, h⟩ := hb.1 rfl; exact absurd h (hno j (by omega))
    rw [hbf]
    refine Ev.step (f := fun _ => some false) (fun q => ?_) (Ev.now _)
    rw [difference_closed.l0, if_neg (by omega)]
  | m + 1, i, hi, hno => by
    have hw : wrap64 ((i : Int) + 1) = ((i + 1 : Nat) : Int) := by rw [w64 (by omega)]; omega
    have hin : (i : Int).toNat = i := by omega
    by_cases hneg : B i i < 0
    · rw [hb.2 ⟨i, by omega, hneg⟩]
      refine Ev.step (f := fun _ => some true) (fun q => ?_) (Ev.now _)
      rw [difference_closed.l0, if_pos (by omega), if_pos (by omega), tab2_len, if_pos (by omega), tab2_rd (by omega) (by omega), tab_len, if_pos (by omega), tab_rd (by omega) (by omega), hin, if_pos hneg]
    · have ih := closed_loop hN B hb m (i + 1) (by omega) (fun i' hi' => by
        by_cases he : i' = i
        · rw [he]; exact hneg
        · exact hno i' (by omega))
      refine Ev.step (fun q => ?_) ih
      rw [difference_closed.l0, if_pos (by omega), if_pos (by omega), tab2_len, if_pos (by omega), tab2_rd (by omega) (by omega), tab_len, if_pos (by omega), tab_rd (by omega) (by omega), hin, if_neg hneg, hw]
theorem closed_ev {N : Nat} (hN : N ≤ 13) (B : Nat → Nat → Int) {b : Bool} (hb : b = true ↔ ∃ i, i < N ∧ B i i < 0) : Ev (fun q => difference_closed.f q (tab2 N B)) b := by
  unfold difference_closed.f
  rw [tab2_len]
  exact closed_loop hN B hb N 0 (by omega) (fun i' h => by omega)

/-! ### The list that is read out of the tables -/
/-- The start of the list, once the arc a is its next one. -/
def fstOf (start : Int) (a : S71) : Int := if start < 0 then a.f1 else start
/-- May the arc a come next? -/
def fits (T : Nat → Nat → Int) (start at_ sum : Int) (a : S71) : Bool := (decide (start < 0) || decide (a.f1 = at_)) && (decide (T a.f2.toNat (fstOf start a).toNat < far) && decide (sum + a.f3 + T a.f2.toNat (fstOf start a).toNat < 0))
/-- The uses that are read out. -/
def recon (A : List Arc) (L : List S71) : Nat → List S55 → Int → Int → Int → List S55
  | 0, out, _, _, _ => out
  | r + 1, out, start, at_, sum => match L.find? (fits (exactT A r) start at_ sum) with
    | none => recon A L r out start at_ sum
    | some a => recon A L r (out ++ [a.f0]) (fstOf start a) a.f2 (sum + a.f3)
def tabs (A : List Arc) (N K : Nat) : List (List (List Int)) := (List.range (K + 1)).map fun k => tab2 N (exactT A k)
theorem tabs_len (A : List Arc) (N K : Nat) : (tabs A N K).length = K + 1 := by simp [tabs]
theorem tabs_rd (A : List Arc) (N K : Nat) {x : Int} (h0 : 0 ≤ x) (h1 : x < K + 1) : rd_L6 (tabs A N K) x = tab2 N (exactT A x.toNat) := by
  unfold rd_L6 tabs
  rw [List.getD_eq_getElem?_getD, List.getElem?_map, List.getElem?_range (by omega)]
  rfl
theorem tabs_snoc (A : List Arc) (N K : Nat) : tabs A N K ++ [tab2 N (exactT A (K + 1))] = tabs A N (K + 1) := by simp [tabs, List.range_succ]
theorem ref_l2 {N K r : Nat} (hN : N ≤ 13) (hK : K ≤ 50) (hr : r ≤ K) {L : List S71} (hL : L.length ≤ 1000) (hg : good N L) (out : List S55) (start at_ sum : Int) (ho : out.length ≤ 100) (hs : start < N) (hsum : -1000000000 ≤ sum ∧ sum ≤ 1000000000)
    (ih0 : Ev (fun q => difference_Refute.l1 q L (tabs (L.map toA) N K) out start at_ sum ((r : Int) - 1)) (recon (L.map toA) L r out start at_ sum, 0))
    (ih : ∀ a ∈ L, Ev (fun q => difference_Refute.l1 q L (tabs (L.map toA) N K) (out ++ [a.f0]) (fstOf start a) a.f2 (sum + a.f3) ((r : Int) - 1)) (recon (L.map toA) L r (out ++ [a.f0]) (fstOf start a) a.f2 (sum + a.f3), 0)) :
    ∀ (rest pre : List S71), L = pre ++ rest → Ev (fun q => difference_Refute.l2 q L (tabs (L.map toA) N K) out start at_ sum (r : Int) L (L.length : Int) (pre.length : Int)) ((match rest.find? (fits (exactT (L.map toA) r) start at_ sum) with
      | none => recon (L.map toA) L r out start at_ sum
      | some a => recon (L.map toA) L r (out ++ [a.f0]) (fstOf start a) a.f2 (sum + a.f3)), 0)
  | [], pre, h => by
    have hwr : wrap64 ((r : Int) - 1) = (r : Int) - 1 := w64 (by omega)
    refine Ev.step (fun q => ?_) ih0
    rw [difference_Refute.l2, if_neg (by rw [h]; simp), hwr]
  | a :: rest, pre, h => by
    have hlen : pre.length < L.length := by rw [h]; simp
    have hw : wrap64 ((pre.length : Int) + 1) = ((pre ++ [a]).length : Int) := by rw [w64 (by omega)]; simp
    have hwr : wrap64 ((r : Int) - 1) = (r : Int) - 1 := w64 (by omega)
    have hmem : a ∈ L := by rw [h]; simp
    have hga := hg a hmem
    unfold goodA at hga
    have hnext := ref_l2 hN hK hr hL hg out start at_ sum ho hs hsum ih0 ih rest (pre ++ [a]) (by rw [h]; simp)
    have hsane := exact_sane (good_small hg) r (by omega) a.f2.toNat (fstOf start a).toNat
    have hws : wrap64 (sum + a.f3) = sum + a.f3 := w64 (by omega)
    have hws2 : wrap64 (sum + a.f3 + exactT (L.map toA) r a.f2.toNat (fstOf start a).toNat) = sum + a.f3 + exactT (L.map toA) r a.f2.toNat (fstOf start a).toNat := w64 (by omega)
    have hrn : (r : Int).toNat = r := by omega
    have hf0 : 0 ≤ fstOf start a ∧ fstOf start a < N := by unfold fstOf; split <;> omega
    by_cases hok : start < 0 ∨ a.f1 = at_
    · have hj : Ev (fun q => difference_Refute.j3 q L (tabs (L.map toA) N K) out start at_ sum (r : Int) (fstOf start a) L (L.length : Int) (pre.length : Int) a.f0.f0 a.f0.f1 a.f1 a.f2 a.f3) ((match (a :: rest).find? (fits (exactT (L.map toA) r) start at_ sum) with
          | none => recon (L.map toA) L r out start at_ sum
          | some a => recon (L.map toA) L r (out ++ [a.f0]) (fstOf start a) a.f2 (sum + a.f3)), 0) := by
        by_cases h1 : exactT (L.map toA) r a.f2.toNat (fstOf start a).toNat < far
        · have h1' : exactT (L.map toA) r a.f2.toNat (fstOf start a).toNat < 1125899906842624 := h1
          by_cases h2 : sum + a.f3 + exactT (L.map toA) r a.f2.toNat (fstOf start a).toNat < 0
          · have hfit : fits (exactT (L.map toA) r) start at_ sum a = true := by
              unfold fits
              simp only [Bool.and_eq_true, Bool.or_eq_true, decide_eq_true_eq]
              exact ⟨hok, h1, h2⟩
            rw [List.find?_cons_of_pos hfit]
            refine Ev.step (fun q => ?_) (ih a hmem)
            rw [difference_Refute.j3, if_pos (by omega), tabs_len, if_pos (by omega), if_pos (by omega), tabs_rd _ _ _ (by omega) (by omega), tab2_len, if_pos (by omega), if_pos (by omega), tab2_rd (by omega) (by omega), tab_len, if_pos (by omega), tab_rd (by omega) (by omega), hrn, if_pos h1', hws, hws2, if_pos h2, if_pos (by omega), hwr]
          · have hfit : ¬ fits (exactT (L.map toA) r) start at_ sum a = true := by
              unfold fits
              simp only [Bool.and_eq_true, Bool.or_eq_true, decide_eq_true_eq]
              exact fun h => h2 h.2.2
            rw [List.find?_cons_of_neg hfit]
            refine Ev.step (fun q => ?_) hnext
            rw [difference_Refute.j3, if_pos (by omega), tabs_len, if_pos (by omega), if_pos (by omega), tabs_rd _ _ _ (by omega) (by omega), tab2_len, if_pos (by omega), if_pos (by omega), tab2_rd (by omega) (by omega), tab_len, if_pos (by omega), tab_rd (by omega) (by omega), hrn, if_pos h1', hws, hws2, if_neg h2, hw]
        · have h1' : ¬ exactT (L.map toA) r a.f2.toNat (fstOf start a).toNat < 1125899906842624 := h1
          have hfit : ¬ fits (exactT (L.map toA) r) start at_ sum a = true := by
            unfold fits
            simp only [Bool.and_eq_true, Bool.or_eq_true, decide_eq_true_eq]
            exact fun h => h1 h.2.1
          rw [List.find?_cons_of_neg hfit]
          refine Ev.step (fun q => ?_) hnext
          rw [difference_Refute.j3, if_pos (by omega), tabs_len, if_pos (by omega), if_pos (by omega), tabs_rd _ _ _ (by omega) (by omega), tab2_len, if_pos (by omega), if_pos (by omega), tab2_rd (by omega) (by omega), tab_len, if_pos (by omega), tab_rd (by omega) (by omega), hrn, if_neg h1', hw]
      refine Ev.step (fun q => ?_) hj
      by_cases hneg : start < 0
      · rw [difference_Refute.l2, if_pos (by omega), if_pos (by omega), if_pos (by omega), if_pos hneg, rdT71_at h]
        unfold fstOf
        rw [if_pos hneg]
      · rw [difference_Refute.l2, if_pos (by omega), if_pos (by omega), if_pos (by omega), if_neg hneg, rdT71_at h, if_pos (hok.resolve_left hneg)]
        unfold fstOf
        rw [if_neg hneg]
    · have hfit : ¬ fits (exactT (L.map toA) r) start at_ sum a = true := by
        unfold fits
        simp only [Bool.and_eq_true, Bool.or_eq_true, decide_eq_true_eq]
        exact fun h => hok h.1
      rw [List.find?_cons_of_neg hfit]
      refine Ev.step (fun q => ?_) hnext
      rw [difference_Refute.l2, if_pos (by omega), if_pos (by omega), if_pos (by omega), if_neg (fun h => hok (.inl h)), rdT71_at h, if_neg (fun h => hok (.inr h)), hw]
theorem ref_l1 {N K : Nat} (hN : N ≤ 13) (hK : K ≤ 50) {L : List S71} (hL : L.length ≤ 1000) (hg : good N L) : ∀ (r : Nat), r ≤ K + 1 → ∀ (out : List S55) (start at_ sum : Int), out.length + r ≤ 60 → start < N → -(3000000 * (60 - r) : Int) ≤ sum ∧ sum ≤ 3000000 * (60 - r) →
    Ev (fun q => difference_Refute.l1 q L (tabs (L.map toA) N K) out start at_ sum ((r : Int) - 1)) (recon (L.map toA) L r out start at_ sum, 0)
  | 0, _, out, start, at_, sum, ho, hs, hsum => by
    refine Ev.step (f := fun _ => some (out, 0)) (fun q => ?_) (Ev.now _)
    rw [difference_Refute.l1, if_neg (by omega)]
  | r + 1, hr, out, start, at_, sum, ho, hs, hsum => by
    have ih0 := ref_l1 hN hK hL hg r (by omega) out start at_ sum (by omega) hs (by omega)
    have hl2 := ref_l2 hN hK (r := r) (by omega) hL hg out start at_ sum (by omega) hs (by omega) ih0 (fun a ha => by
      have hga := hg a ha
      unfold goodA at hga
      exact ref_l1 hN hK hL hg r (by omega) (out ++ [a.f0]) (fstOf start a) a.f2 (sum + a.f3) (by simp; omega) (by unfold fstOf; split <;> omega) (by omega)) L [] rfl
    refine Ev.step (fun q => ?_) hl2
    have : ((r + 1 : Nat) : Int) - 1 = (r : Int) := by omega
    rw [this, difference_Refute.l1, if_pos (by omega)]
    rfl
/-- Is the table of the walks of length k the first that has a place in which a closed walk gains? -/
def firstNeg (A : List Arc) (N k : Nat) : Prop := (∃ i, i < N ∧ exactT A k i i < 0) ∧ ∀ k', k' < k → ¬ ∃ i, i < N ∧ exactT A k' i i < 0
theorem first_some {A : List Arc} {N : Nat} (hN : N ≤ 13) (hs : small A) (hin : InN N A) (hnf : ¬ Feas A) : ∃ K, K ≤ N ∧ firstNeg A N K := by
  obtain ⟨i, w, hw, hneg, hlen⟩ := infeas_neg hin hnf
  have hne : w ≠ [] := by rintro rfl; simp [wsum] at hneg
  have hi := (walk_lt hin w i i hw hne).1
  have he := (exact_spec hs w.length (by omega) i i).2 w hw rfl
  have key : ∀ m : Nat, (∃ k, k ≤ m ∧ ∃ i, i < N ∧ exactT A k i i < 0) → ∃ K, K ≤ m ∧ firstNeg A N K := by
    intro m
    induction m with
    | zero =>
      rintro ⟨k, hk, h⟩
      obtain rfl : k = 0 := by omega
      exact ⟨0, by omega, h, fun k' h' => by omega⟩
    | succ m ih =>
      rintro ⟨k, hk, h⟩
      by_cases hc : ∃ k, k ≤ m ∧ ∃ i, i < N ∧ exactT A k i i < 0
      · obtain ⟨K, hK, hf⟩ := ih hc
        exact ⟨K, by omega, hf⟩
      · by_cases hkm : k ≤ m
        · exact absurd ⟨k, hkm, h⟩ hc
        · obtain rfl : k = m + 1 := by omega
          exact ⟨m + 1, by omega, h, fun k' h' hx => hc ⟨k', by omega, hx⟩⟩
  obtain ⟨K, hK, hf⟩ := key N ⟨w.length, hlen, i, hi, by omega⟩
  exact ⟨K, hK, hf⟩
/-- The uses that Refute returns, of tests that have no solution. -/
def refL (A : List Arc) (L : List S71) (K : Nat) : List S55 := recon A L K [] (-1) 0 0
theorem ref_l0 {N K : Nat} (h1 : 1 ≤ N) (hN : N ≤ 13) (hK : K ≤ N) {L : List S71} (hL : L.length ≤ 1000) (hg : good N L) (hfn : firstNeg (L.map toA) N K) : ∀ (m k : Nat), k + m = K → Ev (fun q => difference_Refute.l0 q L (tabs (L.map toA) N k)) (refL (L.map toA) L K, 0)
  | 0, k, hk => by
    obtain rfl : k = K := by omega
    have hw : wrap64 (((k + 1 : Nat) : Int) - 1) = (k : Int) := by rw [w64 (by omega)]; omega
    have hw2 : wrap64 (((k + 1 : Nat) : Int) - 2) = (k : Int) - 1 := by rw [w64 (by omega)]; omega
    refine Ev.step (f := fun q => (difference_closed.f q (tab2 N (exactT (L.map toA) k))).bind fun t227 => (if t227 = true then (difference_Refute.l1 q L (tabs (L.map toA) N k) ([] : List (S55)) (-1) 0 0 ((k : Int) - 1)) else ((difference_longer.f q (tab2 N (exactT (L.map toA) k)) L).bind fun t229 => (if (tabs (L.map toA) N k).length < 5864062014805 then (difference_Refute.l0 q L ((tabs (L.map toA) N k) ++ [t229])) else (none))))) (fun q => ?_) ?_
    · rw [difference_Refute.l0, tabs_len, hw, hw2, if_pos (by omega), if_pos (by omega), tabs_rd _ _ _ (by omega) (by omega)]
      rfl
    · refine Ev.bind (closed_ev hN _ (b := true) ⟨fun _ => hfn.1, fun _ => rfl⟩) ?_
      refine Ev.ite_pos rfl ?_
      exact ref_l1 hN (by omega) hL hg k (by omega) [] (-1) 0 0 (by simp; omega) (by omega) (by omega)
  | m + 1, k, hk => by
    have hw : wrap64 (((k + 1 : Nat) : Int) - 1) = (k : Int) := by rw [w64 (by omega)]; omega
    refine Ev.step (f := fun q => (difference_closed.f q (tab2 N (exactT (L.map toA) k))).bind fun t227 => (if t227 = true then (difference_Refute.l1 q L (tabs (L.map toA) N k) ([] : List (S55)) (-1) 0 0 (wrap64 (((k + 1 : Nat) : Int) - 2))) else ((difference_longer.f q (tab2 N (exactT (L.map toA) k)) L).bind fun t229 => (if k + 1 < 5864062014805 then (difference_Refute.l0 q L ((tabs (L.map toA) N k) ++ [t229])) else (none))))) (fun q => ?_) ?_
    · rw [difference_Refute.l0, tabs_len, hw, if_pos (by omega), if_pos (by omega), tabs_rd _ _ _ (by omega) (by omega)]
      rfl
    · refine Ev.bind (closed_ev hN _ (b := false) ⟨fun h => (by cases h), fun h => absurd h (hfn.2 k (by omega))⟩) ?_
      refine Ev.ite_neg (by simp) ?_
      refine Ev.bind (longer_ev h1 hN hL hg (exact_sane (good_small hg) k (by omega))) ?_
      refine Ev.ite_pos (by omega) ?_
      have := ref_l0 h1 hN hK hL hg hfn m (k + 1) (by omega)
      rw [← tabs_snoc] at this
      exact this
/-- What Refute comes to. -/
theorem refute_ev (n : Int) (l : List S26) : ∃ R : List S55, Ev (fun q => difference_Refute.f q n l) (if errV n l = 0 then R else [], if errV n l = 0 then (@ite Int (Feas ((arcsF 0 l).map toA)) (Classical.propDecidable _) 10 0) else errV n l) ∧
    (errV n l = 0 → ¬ Feas ((arcsF 0 l).map toA) → ∃ K, K ≤ n.toNat + 1 ∧ firstNeg ((arcsF 0 l).map toA) (n.toNat + 1) K ∧ R = refL ((arcsF 0 l).map toA) (arcsF 0 l) K) ∧ (errV n l = 0 → Feas ((arcsF 0 l).map toA) → R = []) := by
  by_cases h : errV n l = 0
  · obtain ⟨h0, h12, h40, hv⟩ := errV_zero h
    have hgA := arcsF_good h0 h12 l 0 hv
    have hl := arcsF_len 0 l
    by_cases hf : Feas ((arcsF 0 l).map toA)
    · refine ⟨[], ?_, fun _ hnf => absurd hf hnf, fun _ _ => rfl⟩
      simp only [if_pos h, if_pos hf]
      unfold difference_Refute.f
      refine Ev.bind (valid_ev n l) (Ev.ite_pos h ?_)
      refine Ev.bind (arcs_ev l (by omega)) ?_
      refine Ev.bind (dist_ev h0 h12 hgA (by omega) (R := (_, true)) ⟨fun _ => rfl, fun hnf => absurd hf hnf⟩) ?_
      exact Ev.ite_pos rfl (Ev.now _)
    · obtain ⟨K, hK, hfn⟩ := first_some (by omega) (good_small hgA) (good_inN hgA) hf
      refine ⟨refL ((arcsF 0 l).map toA) (arcsF 0 l) K, ?_, fun _ _ => ⟨K, hK, hfn, rfl⟩, fun _ h2 => absurd h2 hf⟩
      simp only [if_pos h, if_neg hf]
      unfold difference_Refute.f
      refine Ev.bind (valid_ev n l) (Ev.ite_pos h ?_)
      refine Ev.bind (arcs_ev l (by omega)) ?_
      refine Ev.bind (dist_ev h0 h12 hgA (by omega) (R := ([], false)) ⟨fun h2 => absurd h2 hf, fun _ => rfl⟩) ?_
      refine Ev.ite_neg (by simp) ?_
      refine Ev.bind (fresh_ev (N := n.toNat + 1) (by omega) (by omega) n (by omega)) ?_
      have := ref_l0 (N := n.toNat + 1) (by omega) (by omega) hK (by omega) hgA hfn K 0 (by omega)
      exact this
  · refine ⟨[], ?_, fun h2 => absurd h2 h, fun h2 => absurd h2 h⟩
    simp only [if_neg h]
    unfold difference_Refute.f
    exact Ev.bind (valid_ev n l) (Ev.ite_neg h (Ev.now _))
end Go.Proofs.Yteebkkdbkkibmaa.Pure
