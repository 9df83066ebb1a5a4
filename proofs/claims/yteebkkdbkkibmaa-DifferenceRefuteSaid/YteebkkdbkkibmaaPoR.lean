/- The law DifferenceRefute over the printed functions: it comes to true. Conditions: none. -/
import Derived.Test.YteebkkdbkkibmaaQ6
import Derived.Test.YteebkkdbkkibmaaQ5
import Derived.Test.YteebkkdbkkibmaaPr23
import Derived.Test.YteebkkdbkkibmaaPr13
import Derived.Test.YteebkkdbkkibmaaPh
namespace Go.Proofs.Yteebkkdbkkibmaa.Pure
open Go.RowKit Go.Proofs.Yteebkkdbkkibmaa.Pr Go.Proofs.YteebkkdbkkibmaaW.PrintWords Go.Proofs.YteebkkdbkkibmaaW.PrintLast Go.Proofs.YteebkkdbkkibmaaW.PrintMore Go.Proofs.Yteebkkdbkkibmaa.Bf
set_option linter.unusedVariables false

theorem awake_some : Ev (fun q => (scarfjointlaw03_awake.f q).bind fun t => some t) true := Ev.bind awake_ev (Ev.now true)
theorem clone_test {l : List S26} (hl : l.length ≤ 45) : api_Test_14.f l = some l := by
  unfold api_Test_14.f
  simp only [Option.bind_some, List.length_nil, List.nil_append]
  rw [if_pos (by omega)]
theorem Ref_l3 {N K r : Nat} (hN : N ≤ 13) (hK : K ≤ 50) (hr : r ≤ K) {L : List S71} (hL : L.length ≤ 1000) (hg : good N L) (out : List S55) (start at_ at2 sum : Int) (ho : out.length ≤ 100) (hs : start < N) (hat : start < 0 ∨ at2 = at_) (hsum : -1000000000 ≤ sum ∧ sum ≤ 1000000000)
    (ih0 : Ev (fun q => scarfjointref03_Refute.l2 q (L.map to79) (tabs (L.map toA) N K) out start at2 sum ((r : Int) - 1)) (recon (L.map toA) L r out start at_ sum, 0))
    (ih : ∀ a ∈ L, Ev (fun q => scarfjointref03_Refute.l2 q (L.map to79) (tabs (L.map toA) N K) (out ++ [a.f0]) (fstOf start a) a.f2 (sum + a.f3) ((r : Int) - 1)) (recon (L.map toA) L r (out ++ [a.f0]) (fstOf start a) a.f2 (sum + a.f3), 0)) :
    ∀ (rest pre : List S71), L = pre ++ rest → Ev (fun q => scarfjointref03_Refute.l3 q (L.map to79) (tabs (L.map toA) N K) out start at2 sum (r : Int) (pre.length : Int)) ((match rest.find? (fits (exactT (L.map toA) r) start at_ sum) with
      | none => recon (L.map toA) L r out start at_ sum
      | some a => recon (L.map toA) L r (out ++ [a.f0]) (fstOf start a) a.f2 (sum + a.f3)), 0)
  | [], pre, h => by
    have hwr : wrap64 ((r : Int) - 1) = (r : Int) - 1 := w64 (by omega)
    refine Ev.step (fun q => ?_) ih0
    rw [scarfjointref03_Refute.l3, List.length_map, if_neg (by rw [h]; simp), hwr]
  | a :: rest, pre, h => by
    have hlen : pre.length < L.length := by rw [h]; simp
    have hw : wrap64 ((pre.length : Int) + 1) = ((pre ++ [a]).length : Int) := by rw [w64 (by omega)]; simp
    have hwr : wrap64 ((r : Int) - 1) = (r : Int) - 1 := w64 (by omega)
    have hmem : a ∈ L := by rw [h]; simp
    have hga := hg a hmem
    unfold goodA at hga
    have hnext := Ref_l3 hN hK hr hL hg out start at_ at2 sum ho hs hat hsum ih0 ih rest (pre ++ [a]) (by rw [h]; simp)
    have hsane := exact_sane (good_small hg) r (by omega) a.f2.toNat (fstOf start a).toNat
    have hws : wrap64 (sum + a.f3) = sum + a.f3 := w64 (by omega)
    have hws2 : wrap64 (sum + a.f3 + exactT (L.map toA) r a.f2.toNat (fstOf start a).toNat) = sum + a.f3 + exactT (L.map toA) r a.f2.toNat (fstOf start a).toNat := w64 (by omega)
    have hrn : (r : Int).toNat = r := by omega
    have e0 : (to79 a).f0 = a.f0 := rfl
    have e1 : (to79 a).f1 = a.f1 := rfl
    have e2 : (to79 a).f2 = a.f2 := rfl
    have e3 : (to79 a).f3 = a.f3 := rfl
    have hlm : (L.map to79).length = L.length := List.length_map _
    by_cases hok : start < 0 ∨ a.f1 = at_
    · have hj : Ev (fun q => scarfjointref03_Refute.j4 q (L.map to79) (tabs (L.map toA) N K) out start at2 sum (r : Int) (pre.length : Int) false) ((match (a :: rest).find? (fits (exactT (L.map toA) r) start at_ sum) with
          | none => recon (L.map toA) L r out start at_ sum
          | some a => recon (L.map toA) L r (out ++ [a.f0]) (fstOf start a) a.f2 (sum + a.f3)), 0) := by
        by_cases hneg : start < 0
        · have hfs : fstOf start a = a.f1 := by unfold fstOf; rw [if_pos hneg]
          rw [hfs] at hws2
          by_cases h1 : exactT (L.map toA) r a.f2.toNat a.f1.toNat < far
          · have h1' : exactT (L.map toA) r a.f2.toNat a.f1.toNat < 1125899906842624 := h1
            by_cases h2 : sum + a.f3 + exactT (L.map toA) r a.f2.toNat a.f1.toNat < 0
            · have hfit : fits (exactT (L.map toA) r) start at_ sum a = true := by
                unfold fits
                simp only [Bool.and_eq_true, Bool.or_eq_true, decide_eq_true_eq, hfs]
                exact ⟨hok, h1, h2⟩
              rw [List.find?_cons_of_pos hfit]
              have hi := ih a hmem
              rw [hfs] at hi
              simp only [hfs]
              refine Ev.step (fun q => ?_) hi
              rw [scarfjointref03_Refute.j4, if_neg (by simp), if_pos hneg, if_pos (by omega), if_pos (by omega), if_pos (by omega), tabs_len, if_pos (by omega), rdT79_at h, e0, e1, e2, e3, if_pos (by omega), tabs_rd _ _ _ (by omega) (by omega), tab2_len, if_pos (by omega), if_pos (by omega), tab2_rd (by omega) (by omega), tab_len, if_pos (by omega), tab_rd (by omega) (by omega), hrn, if_pos h1', hws, hws2, if_pos h2, if_pos (by omega), hwr]
            · have hfit : ¬ fits (exactT (L.map toA) r) start at_ sum a = true := by
                unfold fits
                simp only [Bool.and_eq_true, Bool.or_eq_true, decide_eq_true_eq, hfs]
                exact fun h => h2 h.2.2
              rw [List.find?_cons_of_neg hfit]
              refine Ev.step (fun q => ?_) hnext
              rw [scarfjointref03_Refute.j4, if_neg (by simp), if_pos hneg, if_pos (by omega), if_pos (by omega), if_pos (by omega), tabs_len, if_pos (by omega), rdT79_at h, e0, e1, e2, e3, if_pos (by omega), tabs_rd _ _ _ (by omega) (by omega), tab2_len, if_pos (by omega), if_pos (by omega), tab2_rd (by omega) (by omega), tab_len, if_pos (by omega), tab_rd (by omega) (by omega), hrn, if_pos h1', hws, hws2, if_neg h2, hw]
          · have h1' : ¬ exactT (L.map toA) r a.f2.toNat a.f1.toNat < 1125899906842624 := h1
            have hfit : ¬ fits (exactT (L.map toA) r) start at_ sum a = true := by
              unfold fits
              simp only [Bool.and_eq_true, Bool.or_eq_true, decide_eq_true_eq, hfs]
              exact fun h => h1 h.2.1
            rw [List.find?_cons_of_neg hfit]
            refine Ev.step (fun q => ?_) hnext
            rw [scarfjointref03_Refute.j4, if_neg (by simp), if_pos hneg, if_pos (by omega), if_pos (by omega), if_pos (by omega), tabs_len, if_pos (by omega), rdT79_at h, e0, e1, e2, e3, if_pos (by omega), tabs_rd _ _ _ (by omega) (by omega), tab2_len, if_pos (by omega), if_pos (by omega), tab2_rd (by omega) (by omega), tab_len, if_pos (by omega), tab_rd (by omega) (by omega), hrn, if_neg h1', hw]
        · have hfs : fstOf start a = start := by unfold fstOf; rw [if_neg hneg]
          rw [hfs] at hws2
          by_cases h1 : exactT (L.map toA) r a.f2.toNat start.toNat < far
          · have h1' : exactT (L.map toA) r a.f2.toNat start.toNat < 1125899906842624 := h1
            by_cases h2 : sum + a.f3 + exactT (L.map toA) r a.f2.toNat start.toNat < 0
            · have hfit : fits (exactT (L.map toA) r) start at_ sum a = true := by
                unfold fits
                simp only [Bool.and_eq_true, Bool.or_eq_true, decide_eq_true_eq, hfs]
                exact ⟨hok, h1, h2⟩
              rw [List.find?_cons_of_pos hfit]
              have hi := ih a hmem
              rw [hfs] at hi
              simp only [hfs]
              refine Ev.step (fun q => ?_) hi
              rw [scarfjointref03_Refute.j4, if_neg (by simp), if_neg hneg, if_pos (by omega), tabs_len, if_pos (by omega), if_pos (by omega), if_pos (by omega), rdT79_at h, e0, e2, e3, if_pos (by omega), tabs_rd _ _ _ (by omega) (by omega), tab2_len, if_pos (by omega), if_pos (by omega), tab2_rd (by omega) (by omega), tab_len, if_pos (by omega), tab_rd (by omega) (by omega), hrn, if_pos h1', hws, hws2, if_pos h2, if_pos (by omega), hwr]
            · have hfit : ¬ fits (exactT (L.map toA) r) start at_ sum a = true := by
                unfold fits
                simp only [Bool.and_eq_true, Bool.or_eq_true, decide_eq_true_eq, hfs]
                exact fun h => h2 h.2.2
              rw [List.find?_cons_of_neg hfit]
              refine Ev.step (fun q => ?_) hnext
              rw [scarfjointref03_Refute.j4, if_neg (by simp), if_neg hneg, if_pos (by omega), tabs_len, if_pos (by omega), if_pos (by omega), if_pos (by omega), rdT79_at h, e0, e2, e3, if_pos (by omega), tabs_rd _ _ _ (by omega) (by omega), tab2_len, if_pos (by omega), if_pos (by omega), tab2_rd (by omega) (by omega), tab_len, if_pos (by omega), tab_rd (by omega) (by omega), hrn, if_pos h1', hws, hws2, if_neg h2, hw]
          · have h1' : ¬ exactT (L.map toA) r a.f2.toNat start.toNat < 1125899906842624 := h1
            have hfit : ¬ fits (exactT (L.map toA) r) start at_ sum a = true := by
              unfold fits
              simp only [Bool.and_eq_true, Bool.or_eq_true, decide_eq_true_eq, hfs]
              exact fun h => h1 h.2.1
            rw [List.find?_cons_of_neg hfit]
            refine Ev.step (fun q => ?_) hnext
            rw [scarfjointref03_Refute.j4, if_neg (by simp), if_neg hneg, if_pos (by omega), tabs_len, if_pos (by omega), if_pos (by omega), if_pos (by omega), rdT79_at h, e0, e2, e3, if_pos (by omega), tabs_rd _ _ _ (by omega) (by omega), tab2_len, if_pos (by omega), if_pos (by omega), tab2_rd (by omega) (by omega), tab_len, if_pos (by omega), tab_rd (by omega) (by omega), hrn, if_neg h1', hw]
      refine Ev.step (fun q => ?_) hj
      by_cases hneg : start < 0
      · rw [scarfjointref03_Refute.l3, hlm, if_pos (by omega), if_neg (by omega)]
      · have h3 : a.f1 = at2 := by rw [hat.resolve_left hneg]; exact hok.resolve_left hneg
        rw [scarfjointref03_Refute.l3, hlm, if_pos (by omega), if_pos (by omega), if_pos (by omega), rdT79_at h, e1, h3]
        simp
    · have hfit : ¬ fits (exactT (L.map toA) r) start at_ sum a = true := by
        unfold fits
        simp only [Bool.and_eq_true, Bool.or_eq_true, decide_eq_true_eq]
        exact fun h => hok h.1
      rw [List.find?_cons_of_neg hfit]
      have h3 : a.f1 ≠ at2 := fun h => hok (.inr (by rw [h]; exact hat.resolve_left (fun h2 => hok (.inl h2))))
      refine Ev.step (f := fun q => scarfjointref03_Refute.j4 q (L.map to79) (tabs (L.map toA) N K) out start at2 sum (r : Int) (pre.length : Int) true) (fun q => ?_) (Ev.step (fun q => ?_) hnext)
      · rw [scarfjointref03_Refute.l3, hlm, if_pos (by omega), if_pos (by omega), if_pos (by omega), rdT79_at h, e1, bne_iff_ne.2 h3]
      · rw [scarfjointref03_Refute.j4, if_pos rfl, hw]
theorem Ref_l2 {N K : Nat} (hN : N ≤ 13) (hK : K ≤ 50) {L : List S71} (hL : L.length ≤ 1000) (hg : good N L) : ∀ (r : Nat), r ≤ K + 1 → ∀ (out : List S55) (start at_ at2 sum : Int), out.length + r ≤ 60 → start < N → (start < 0 ∨ at2 = at_) → -(3000000 * (60 - r) : Int) ≤ sum ∧ sum ≤ 3000000 * (60 - r) →
    Ev (fun q => scarfjointref03_Refute.l2 q (L.map to79) (tabs (L.map toA) N K) out start at2 sum ((r : Int) - 1)) (recon (L.map toA) L r out start at_ sum, 0)
  | 0, _, out, start, at_, at2, sum, ho, hs, hat, hsum => by
    refine Ev.step (f := fun _ => some (out, 0)) (fun q => ?_) (Ev.now _)
    rw [scarfjointref03_Refute.l2, if_neg (by omega)]
  | r + 1, hr, out, start, at_, at2, sum, ho, hs, hat, hsum => by
    have ih0 := Ref_l2 hN hK hL hg r (by omega) out start at_ at2 sum (by omega) hs hat (by omega)
    have hl2 := Ref_l3 hN hK (r := r) (by omega) hL hg out start at_ at2 sum (by omega) hs hat (by omega) ih0 (fun a ha => by
      have hga := hg a ha
      unfold goodA at hga
      exact Ref_l2 hN hK hL hg r (by omega) (out ++ [a.f0]) (fstOf start a) a.f2 a.f2 (sum + a.f3) (by simp; omega) (by unfold fstOf; split <;> omega) (.inr rfl) (by omega)) L [] rfl
    refine Ev.step (fun q => ?_) hl2
    have : ((r + 1 : Nat) : Int) - 1 = (r : Int) := by omega
    rw [this, scarfjointref03_Refute.l2, if_pos (by omega)]
    rfl
/-- The loop that asks whether a table has a place in which a closed walk gains. -/
theorem Ref_l1 {N : Nat} (hN : N ≤ 13) (n : Int) (hn : n + 1 = N) (L : List S79) (X : List (List (List Int))) (T : Nat → Nat → Int) {R : List S55 × Int} {b : Bool} (hb : b = true ↔ ∃ i, i < N ∧ T i i < 0)
    (h : Ev (fun q => scarfjointref03_Refute.l0 q n L X b) R) : ∀ (m i : Nat) (f : Bool), i + m = N → (f = true ↔ ∃ i', i' < i ∧ T i' i' < 0) → Ev (fun q => scarfjointref03_Refute.l1 q n L X f (tab2 N T) (i : Int)) R
  | 0, i, f, hi, hf => by
    obtain rfl : i = N := by omega
    have hfb : f = b := Bool.eq_iff_iff.2 (hf.trans hb.symm)
    refine Ev.step (fun q => ?_) h
    rw [scarfjointref03_Refute.l1, if_neg (by omega), hfb]
  | m + 1, i, f, hi, hf => by
    have hw : wrap64 ((i : Int) + 1) = ((i + 1 : Nat) : Int) := by rw [w64 (by omega)]; omega
    have hin : (i : Int).toNat = i := by omega
    cases f with
    | true =>
      have ih := Ref_l1 hN n hn L X T hb h m (i + 1) true (by omega) ⟨fun _ => by obtain ⟨j, h1, h2⟩ := hf.1 rfl; exact ⟨j, by omega, h2⟩, fun _ => rfl⟩
      refine Ev.step (fun q => ?_) ih
      rw [scarfjointref03_Refute.l1, if_pos (by omega), if_pos rfl, hw]
    | false =>
      have ih := Ref_l1 hN n hn L X T hb h m (i + 1) (decide (T i i < 0)) (by omega) (by
        rw [decide_eq_true_eq]
        constructor
        · exact fun h1 => ⟨i, by omega, h1⟩
        · rintro ⟨j, h1, h2⟩
          by_cases hj : j = i
          · rw [← hj]; exact h2
          · have := hf.2 ⟨j, by omega, h2⟩
            cases this)
      refine Ev.step (fun q => ?_) ih
      rw [scarfjointref03_Refute.l1, if_pos (by omega), if_neg (by simp), if_pos (by omega), tab2_len, if_pos (by omega), tab2_rd (by omega) (by omega), tab_len, if_pos (by omega), tab_rd (by omega) (by omega), hin, hw]
theorem Ref_l0 {N K : Nat} (h1 : 1 ≤ N) (hN : N ≤ 13) (hK : K ≤ N) (n : Int) (hn : n + 1 = N) {L : List S71} (hL : L.length ≤ 1000) (hg : good N L) (hfn : firstNeg (L.map toA) N K) : ∀ (m k : Nat), k + 1 + m = K → Ev (fun q => scarfjointref03_Refute.l0 q n (L.map to79) (tabs (L.map toA) N k) false) (refL (L.map toA) L K, 0)
  | m, k, hk => by
    have hw : wrap64 (((k + 1 : Nat) : Int) - 1) = (k : Int) := by rw [w64 (by omega)]; omega
    have hnext : Ev (fun q => scarfjointref03_Refute.l1 q n (L.map to79) (tabs (L.map toA) N (k + 1)) false (tab2 N (exactT (L.map toA) (k + 1))) ((0 : Nat) : Int)) (refL (L.map toA) L K, 0) := by
      by_cases hlast : k + 1 = K
      · refine Ref_l1 hN n hn _ _ _ (b := true) ⟨fun _ => by rw [hlast]; exact hfn.1, fun _ => rfl⟩ ?_ N 0 false (by omega) ⟨fun h => (by cases h), fun ⟨i, h, _⟩ => by omega⟩
        have hw2 : wrap64 (((k + 1 + 1 : Nat) : Int) - 2) = ((K : Nat) : Int) - 1 := by rw [w64 (by omega)]; omega
        have h2 := Ref_l2 hN (K := K) (by omega) hL hg K (by omega) [] (-1) 0 (-1) 0 (by simp; omega) (by omega) (.inl (by omega)) (by omega)
        refine Ev.step (fun q => ?_) h2
        rw [scarfjointref03_Refute.l0, if_pos rfl, tabs_len, hw2, hlast]
      · match m, hk with
        | 0, hk => exact absurd hk (by omega)
        | m + 1, hk =>
          refine Ref_l1 hN n hn _ _ _ (b := false) ⟨fun h => (by cases h), fun h => absurd h (hfn.2 (k + 1) (by omega))⟩ ?_ N 0 false (by omega) ⟨fun h => (by cases h), fun ⟨i, h, _⟩ => by omega⟩
          exact Ref_l0 h1 hN hK n hn hL hg hfn m (k + 1) (by omega)
    refine Ev.step (f := fun q => (scarfjointref03_further.f q n (L.map to79) (tab2 N (exactT (L.map toA) k))).bind fun t406 => (if k + 1 < 5864062014805 then (scarfjointref03_Refute.l1 q n (L.map to79) (tabs (L.map toA) N k ++ [t406]) false t406 0) else (none))) (fun q => ?_) ?_
    · rw [scarfjointref03_Refute.l0, if_neg (by simp), tabs_len, hw, if_pos (by omega), if_pos (by omega), tabs_rd _ _ _ (by omega) (by omega)]
      rfl
    · refine Ev.bind (further_ev hN n hn hL hg (exact_sane (good_small hg) k (by omega))) ?_
      refine Ev.ite_pos (by omega) ?_
      rw [← tabs_snoc] at hnext
      exact hnext
theorem first_pos {A : List Arc} {N K : Nat} (h : firstNeg A N K) : 1 ≤ K := by
  rcases K with _ | K
  · obtain ⟨i, _, hi⟩ := h.1
    simp [exactT, diag] at hi
  · omega
/-- What the reference's Refute comes to. -/
theorem Refute_ev (n : Int) (l : List S26) : (errV n l ≠ 0 → Ev (fun q => scarfjointref03_Refute.f q n l) ([], errV n l)) ∧ (errV n l = 0 → Feas ((arcsF 0 l).map toA) → Ev (fun q => scarfjointref03_Refute.f q n l) ([], 10)) ∧
    (errV n l = 0 → ∀ K, K ≤ n.toNat + 1 → firstNeg ((arcsF 0 l).map toA) (n.toNat + 1) K → ¬ Feas ((arcsF 0 l).map toA) → Ev (fun q => scarfjointref03_Refute.f q n l) (refL ((arcsF 0 l).map toA) (arcsF 0 l) K, 0)) := by
  refine ⟨fun h => ?_, fun h hf => ?_, fun h K hK hfn hf => ?_⟩
  · unfold scarfjointref03_Refute.f
    exact Ev.bind (Valid_ev n l) (Ev.ite_neg h (Ev.now _))
  · obtain ⟨h0, h12, h40, hv⟩ := errV_zero h
    have hgA := arcsF_good h0 h12 l 0 hv
    unfold scarfjointref03_Refute.f
    refine Ev.bind (Valid_ev n l) (Ev.ite_pos h ?_)
    refine Ev.bind (Dists_ev h0 h12 (L := l) (by omega) hgA (R := (_, true)) ⟨fun _ => rfl, fun h => absurd hf h⟩) ?_
    exact Ev.ite_pos rfl (Ev.now _)
  · obtain ⟨h0, h12, h40, hv⟩ := errV_zero h
    have hgA := arcsF_good h0 h12 l 0 hv
    have hl := arcsF_len 0 l
    have hK1 := first_pos hfn
    unfold scarfjointref03_Refute.f
    refine Ev.bind (Valid_ev n l) (Ev.ite_pos h ?_)
    refine Ev.bind (Dists_ev h0 h12 (L := l) (by omega) hgA (R := ([], false)) ⟨fun h => absurd h hf, fun _ => rfl⟩) ?_
    refine Ev.ite_neg (by simp) ?_
    refine Ev.bind (Arcs_ev l (by omega)) ?_
    refine Ev.bind (square_ev (N := n.toNat + 1) (by omega) n _ _ (by omega)) ?_
    exact Ref_l0 (N := n.toNat + 1) (by omega) (by omega) hK n (by omega) (by omega) hgA hfn (K - 1) 0 (by omega)
/-! ### Uses are found -/
def isU (u : S55) (a : S71) : Bool := a.f0.f0 == u.f0 && a.f0.f1 == u.f1
def look (L : List S71) (u : S55) : Option S71 := L.find? (isU u)
theorem isU_eq {u : S55} {a : S71} : isU u a = true ↔ a.f0 = u := by
  unfold isU
  rw [Bool.and_eq_true, beq_iff_eq, beq_iff_eq]
  constructor
  · rintro ⟨h1, h2⟩
    cases u; cases h : a.f0; simp_all
  · intro h; rw [h]; exact ⟨rfl, rfl⟩
def gather (L : List S71) : List S55 → Option (List S71)
  | [] => some []
  | u :: r => (look L u).bind fun a => (gather L r).map (a :: ·)
def total : List S71 → Int
  | [] => 0
  | a :: l => a.f3 + total l
def follows : Int → List S71 → Bool
  | _, [] => true
  | at_, a :: l => decide (a.f1 = at_) && follows a.f2 l
def endOf : Int → List S71 → Int
  | at_, [] => at_
  | _, a :: l => endOf a.f2 l
def uniq (L : List S71) : Prop := L.Pairwise fun a b => a.f0 ≠ b.f0
theorem arcsX_use {i : Int} {x : S26} : ∀ a ∈ arcsX i x, a.f0.f0 = i := by
  intro a ha
  unfold arcsX at ha
  split at ha
  · rcases List.mem_cons.1 ha with rfl | ha
    · rfl
    · rcases List.mem_cons.1 ha with rfl | ha
      · rfl
      · cases ha
  · rcases List.mem_cons.1 ha with rfl | ha
    · rfl
    · cases ha
theorem arcsF_use : ∀ (l : List S26) (i : Nat), ∀ a ∈ arcsF i l, (i : Int) ≤ a.f0.f0
  | [], i => fun a ha => by cases ha
  | x :: l, i => fun a ha => by
    rcases List.mem_append.1 ha with ha | ha
    · rw [arcsX_use a ha]; omega
    · have := arcsF_use l (i + 1) a ha; omega
theorem arcsF_uniq : ∀ (l : List S26) (i : Nat), uniq (arcsF i l)
  | [], i => List.Pairwise.nil
  | x :: l, i => by
    refine List.pairwise_append.2 ⟨?_, arcsF_uniq l (i + 1), fun a ha b hb => ?_⟩
    · unfold arcsX
      split
      · refine List.Pairwise.cons (fun b hb => ?_) (List.pairwise_singleton _ _)
        rw [List.mem_singleton.1 hb]
        intro h
        have := congrArg S55.f1 h
        simp [arc1, arc2] at this
      · exact List.pairwise_singleton _ _
    · intro h
      have h1 := arcsX_use a ha
      have h2 := arcsF_use l (i + 1) b hb
      rw [h] at h1
      omega
theorem look_mem {L : List S71} {u : S55} {a : S71} (h : look L u = some a) : a ∈ L ∧ a.f0 = u := ⟨List.mem_of_find?_eq_some h, isU_eq.1 (List.find?_some h)⟩
theorem mem_look : ∀ {L : List S71}, uniq L → ∀ a ∈ L, look L a.f0 = some a
  | [], _, a, h => by cases h
  | b :: L, hu, a, h => by
    obtain ⟨h1, h2⟩ := List.pairwise_cons.1 hu
    unfold look
    rcases List.mem_cons.1 h with rfl | h
    · rw [List.find?_cons_of_pos (isU_eq.2 rfl)]
    · rw [List.find?_cons_of_neg (fun hb => h1 a h (isU_eq.1 hb))]
      exact mem_look h2 a h
theorem gather_mem {L : List S71} : ∀ {r : List S55} {l : List S71}, gather L r = some l → (∀ a ∈ l, a ∈ L) ∧ l.length = r.length
  | [], l, h => by obtain rfl : l = [] := (Option.some.inj h).symm; exact ⟨fun a ha => (by cases ha), rfl⟩
  | u :: r, l, h => by
    unfold gather at h
    obtain ⟨a, ha, h⟩ := Option.bind_eq_some_iff.1 h
    obtain ⟨l', hl', rfl⟩ := Option.map_eq_some_iff.1 h
    obtain ⟨h1, h2⟩ := gather_mem hl'
    refine ⟨fun b hb => ?_, by simp [h2]⟩
    rcases List.mem_cons.1 hb with rfl | hb
    · exact (look_mem ha).1
    · exact h1 b hb
theorem gather_of {L : List S71} (hu : uniq L) : ∀ (l : List S71), (∀ a ∈ l, a ∈ L) → gather L (l.map (·.f0)) = some l
  | [], _ => rfl
  | a :: l, h => by
    show (look L a.f0).bind _ = _
    rw [mem_look hu a (h a (by simp)), Option.bind_some, gather_of hu l (fun b hb => h b (by simp [hb]))]
    rfl
/-- What the checks come to, on arcs. -/
def okList : List S71 → Bool
  | [] => false
  | a :: l => follows a.f2 l && (decide (endOf a.f2 l = a.f1) && decide (total (a :: l) < 0))
def okUses (L : List S71) (r : List S55) : Bool := match gather L r with
  | none => false
  | some l => okList l

/-! ### The program -/
theorem idx_loop {L : List S71} (hL : L.length ≤ 1000) (u : S55) : ∀ (rest pre : List S71), L = pre ++ rest → ∃ i, Ev (fun q => difference_arc_53.l0 q L u.f0 u.f1 (L.length : Int) (pre.length : Int)) i ∧ (rest.find? (isU u) = none → i < 0) ∧ ∀ a, rest.find? (isU u) = some a → 0 ≤ i ∧ i < L.length ∧ rd_T71 L i = a
  | [], pre, h => by
    refine ⟨-1, Ev.step (f := fun _ => some (-1)) (fun q => ?_) (Ev.now _), fun _ => by omega, fun a ha => by simp at ha⟩
    rw [difference_arc_53.l0, if_neg (by rw [h]; simp)]
  | a :: rest, pre, h => by
    have hlen : pre.length < L.length := by rw [h]; simp
    have hw : wrap64 ((pre.length : Int) + 1) = ((pre ++ [a]).length : Int) := by rw [w64 (by omega)]; simp
    have hstep : ∀ q, difference_arc_53.l0 (q + 1) L u.f0 u.f1 (L.length : Int) (pre.length : Int) = if isU u a = true then some (pre.length : Int) else difference_arc_53.l0 q L u.f0 u.f1 (L.length : Int) ((pre ++ [a]).length : Int) := by
      intro q
      rw [difference_arc_53.l0, if_pos (by omega), if_pos (by omega), if_pos (by omega), rdT71_at h, hw]
      rfl
    by_cases hu : isU u a = true
    · refine ⟨(pre.length : Int), Ev.step (f := fun _ => some (pre.length : Int)) (fun q => by rw [hstep, if_pos hu]) (Ev.now _), fun hn => ?_, fun b hb => ?_⟩
      · rw [List.find?_cons_of_pos hu] at hn; cases hn
      · rw [List.find?_cons_of_pos hu] at hb
        obtain rfl := Option.some.inj hb
        exact ⟨by omega, by omega, rdT71_at h⟩
    · obtain ⟨i, he, h1, h2⟩ := idx_loop hL u rest (pre ++ [a]) (by rw [h]; simp)
      refine ⟨i, Ev.step (fun q => by rw [hstep, if_neg hu]) he, fun hn => ?_, fun b hb => ?_⟩
      · rw [List.find?_cons_of_neg hu] at hn; exact h1 hn
      · rw [List.find?_cons_of_neg hu] at hb; exact h2 b hb
theorem idx_ev {L : List S71} (hL : L.length ≤ 1000) (u : S55) : ∃ i, Ev (fun q => difference_arc_53.f q L u.f0 u.f1) i ∧ (look L u = none → i < 0) ∧ ∀ a, look L u = some a → 0 ≤ i ∧ i < L.length ∧ rd_T71 L i = a := idx_loop hL u L [] rfl
theorem chk_l1 {list : List S71} (hl : list.length ≤ 1000) (s : Int) : ∀ (rest pre : List S71) (last : S71), list = pre ++ rest → Ev (fun q => difference_CheckRefute.l1 q s list (list.length : Int) (pre.length : Int) last.f0.f0 last.f0.f1 last.f1 last.f2 last.f3) (follows last.f2 rest && decide (s < 0))
  | [], pre, last, h => by
    refine Ev.step (f := fun _ => some (decide (s < 0))) (fun q => ?_) (by simpa [follows] using Ev.now (decide (s < 0)))
    rw [difference_CheckRefute.l1, if_neg (by rw [h]; simp)]
  | a :: rest, pre, last, h => by
    have hlen : pre.length < list.length := by rw [h]; simp
    have hw : wrap64 ((pre.length : Int) + 1) = ((pre ++ [a]).length : Int) := by rw [w64 (by omega)]; simp
    by_cases ha : a.f1 = last.f2
    · have ih := chk_l1 hl s rest (pre ++ [a]) a (by rw [h]; simp)
      have he : follows last.f2 (a :: rest) = follows a.f2 rest := by simp [follows, ha]
      rw [he]
      refine Ev.step (fun q => ?_) ih
      rw [difference_CheckRefute.l1, if_pos (by omega), if_pos (by omega), if_pos (by omega), rdT71_at h, if_pos ha, hw]
    · have he : (follows last.f2 (a :: rest) && decide (s < 0)) = false := by simp [follows, ha]
      rw [he]
      refine Ev.step (f := fun _ => some false) (fun q => ?_) (Ev.now _)
      rw [difference_CheckRefute.l1, if_pos (by omega), if_pos (by omega), if_pos (by omega), rdT71_at h, if_neg ha]
/-- The program's last check. -/
def finB (list : List S71) (s : Int) : Bool := match list.getLast? with
  | none => false
  | some a => follows a.f2 list && decide (s < 0)
theorem chk_l0 {N : Nat} {L : List S71} (hL : L.length ≤ 1000) (hg : good N L) {r : List S55} (hr1 : 1 ≤ r.length) (hr : r.length ≤ 40) : ∀ (rest pre : List S55) (acc : List S71) (sum : Int), r = pre ++ rest → acc.length = pre.length → (-(3000000 * pre.length : Int) ≤ sum ∧ sum ≤ 3000000 * pre.length) →
    Ev (fun q => difference_CheckRefute.l0 q L acc sum r (r.length : Int) (pre.length : Int)) (match gather L rest with
      | none => false
      | some l => finB (acc ++ l) (sum + total l))
  | [], pre, acc, sum, h, ha, hs => by
    have hpr : pre.length = r.length := by rw [h]; simp
    have hne : acc ≠ [] := by intro h0; rw [h0] at ha; simp at ha; omega
    obtain ⟨ini, a, rfl⟩ : ∃ ini a, acc = ini ++ [a] := (by
      rcases List.eq_nil_or_concat acc with h1 | ⟨i, a, h1⟩
      · exact absurd h1 hne
      · exact ⟨i, a, by rw [h1]; simp⟩)
    have hlen : (ini ++ [a]).length = ini.length + 1 := by simp
    have hw : wrap64 (((ini ++ [a]).length : Int) - 1) = (ini.length : Int) := by rw [w64 (by omega)]; omega
    have hrd : rd_T71 (ini ++ [a]) (ini.length : Int) = a := rdT71_at (rest := []) rfl
    have hfin : finB (ini ++ [a] ++ []) (sum + total []) = (follows a.f2 (ini ++ [a]) && decide (sum < 0)) := by
      unfold finB
      rw [List.append_nil, List.getLast?_concat]
      simp [total]
    show Ev _ (finB (ini ++ [a] ++ []) (sum + total []))
    rw [hfin]
    have := chk_l1 (list := ini ++ [a]) (by omega) sum (ini ++ [a]) [] a rfl
    refine Ev.step (fun q => ?_) this
    rw [difference_CheckRefute.l0, if_neg (by omega), hw, if_pos (by omega), if_pos (by omega), hrd]
    rfl
  | u :: rest, pre, acc, sum, h, ha, hs => by
    have hlen : pre.length < r.length := by rw [h]; simp
    have hw : wrap64 ((pre.length : Int) + 1) = ((pre ++ [u]).length : Int) := by rw [w64 (by omega)]; simp
    have hrd : rd_T55 r (pre.length : Int) = u := by rw [h]; simp [rd_T55]
    obtain ⟨i, he, h1, h2⟩ := idx_ev hL u
    refine Ev.step (f := fun q => (difference_arc_53.f q L u.f0 u.f1).bind fun t503 => (if t503 < 0 then (some false) else (if 0 ≤ t503 then (if t503 < (L.length : Int) then (if acc.length < 3518437208883 then (difference_CheckRefute.l0 q L (acc ++ [(⟨(⟨(rd_T71 L t503).f0.f0, (rd_T71 L t503).f0.f1⟩ : S55), (rd_T71 L t503).f1, (rd_T71 L t503).f2, (rd_T71 L t503).f3⟩ : S71)]) (wrap64 (sum + ((rd_T71 L t503).f3))) r (r.length : Int) ((pre ++ [u]).length : Int)) else (none)) else (none)) else (none)))) (fun q => ?_) ?_
    · rw [difference_CheckRefute.l0, if_pos (by omega), if_pos (by omega), if_pos (by omega), hrd, hw]
    · refine Ev.bind he ?_
      cases hk : look L u with
      | none =>
        have hg0 : gather L (u :: rest) = none := by unfold gather; rw [hk]; rfl
        rw [hg0]
        exact Ev.ite_pos (h1 hk) (Ev.now _)
      | some a =>
        obtain ⟨h3, h4, h5⟩ := h2 a hk
        have hga := hg a (look_mem hk).1
        unfold goodA at hga
        have hpl : (pre ++ [u]).length = pre.length + 1 := by simp
        have hws : wrap64 (sum + a.f3) = sum + a.f3 := w64 (by omega)
        have ih := chk_l0 hL hg hr1 hr rest (pre ++ [u]) (acc ++ [a]) (sum + a.f3) (by rw [h]; simp) (by simp [ha]) (by rw [hpl]; omega)
        have hg1 : gather L (u :: rest) = (gather L rest).map (a :: ·) := by rw [gather, hk]; rfl
        have hres : (match gather L (u :: rest) with
            | none => false
            | some l => finB (acc ++ l) (sum + total l)) = (match gather L rest with
            | none => false
            | some l => finB (acc ++ [a] ++ l) (sum + a.f3 + total l)) := by
          rw [hg1]
          cases gather L rest with
          | none => rfl
          | some l => simp [total, Int.add_assoc]
        rw [hres]
        refine Ev.ite_neg (by omega) (Ev.ite_pos h3 (Ev.ite_pos h4 (Ev.ite_pos (by omega) ?_)))
        rw [h5, hws]
        exact ih
theorem follows_end : ∀ (l : List S71) (a : S71), finB (a :: l) (total (a :: l)) = okList (a :: l) := by
  have key : ∀ (l : List S71) (b : S71), ∃ z, (b :: l).getLast? = some z ∧ z.f2 = endOf b.f2 l := by
    intro l
    induction l with
    | nil => intro b; exact ⟨b, rfl, rfl⟩
    | cons c l ih =>
      intro b
      obtain ⟨z, h1, h2⟩ := ih c
      exact ⟨z, by rw [List.getLast?_cons_cons]; exact h1, h2⟩
  intro l a
  obtain ⟨z, h1, h2⟩ := key l a
  unfold finB okList
  rw [h1]
  simp only [follows, h2]
  cases follows a.f2 l <;> simp [eq_comm]
/-- What the program's CheckRefute comes to. -/
theorem chk_ev (n : Int) (l : List S26) (r : List S55) : Ev (fun q => difference_CheckRefute.f q n l r) (decide (errV n l = 0) && (decide (1 ≤ r.length ∧ r.length ≤ 40) && okUses (arcsF 0 l) r)) := by
  have key : ∀ b : Bool, errV n l = 0 → b = decide (¬ (1 ≤ r.length ∧ r.length ≤ 40)) → Ev (fun q => difference_CheckRefute.j0 q l r b) (decide (1 ≤ r.length ∧ r.length ≤ 40) && okUses (arcsF 0 l) r) := by
    intro b h hb
    obtain ⟨h0, h12, h40, hv⟩ := errV_zero h
    have hgA := arcsF_good h0 h12 l 0 hv
    have hl := arcsF_len 0 l
    by_cases hr : 1 ≤ r.length ∧ r.length ≤ 40
    · have hbf : b = false := by rw [hb]; simpa using hr
      have hd : decide (1 ≤ r.length ∧ r.length ≤ 40) = true := decide_eq_true hr
      rw [hbf, hd, Bool.true_and]
      refine Ev.step (f := fun q => (difference_arcs.f q l).bind fun t498 => (difference_CheckRefute.l0 q t498 ([] : List (S71)) 0 r (r.length : Int) 0)) (fun q => by rw [difference_CheckRefute.j0, if_neg (by simp)]) ?_
      refine Ev.bind (arcs_ev l (by omega)) ?_
      have := chk_l0 (L := arcsF 0 l) (by omega) hgA hr.1 hr.2 r [] [] 0 rfl rfl (by simp)
      have he : okUses (arcsF 0 l) r = (match gather (arcsF 0 l) r with
          | none => false
          | some l' => finB ([] ++ l') (0 + total l')) := by
        unfold okUses
        cases hgt : gather (arcsF 0 l) r with
        | none => rfl
        | some l' =>
          have hlen := (gather_mem hgt).2
          cases l' with
          | nil => simp at hlen; omega
          | cons a l' =>
            simp only [List.nil_append, Int.zero_add]
            exact (follows_end l' a).symm
      rw [he]
      exact this
    · have hbt : b = true := by rw [hb]; exact decide_eq_true hr
      have hd : decide (1 ≤ r.length ∧ r.length ≤ 40) = false := decide_eq_false hr
      rw [hbt, hd, Bool.false_and]
      exact Ev.step (f := fun _ => some false) (fun q => by rw [difference_CheckRefute.j0, if_pos rfl]) (Ev.now _)
  unfold difference_CheckRefute.f
  refine Ev.bind (valid_ev n l) ?_
  by_cases h : errV n l = 0
  · have hd : decide (errV n l = 0) = true := decide_eq_true h
    rw [hd, Bool.true_and]
    refine Ev.ite_pos h ?_
    by_cases h1 : (r.length : Int) = 0
    · exact Ev.ite_pos h1 (key true h (by symm; apply decide_eq_true; omega))
    · exact Ev.ite_neg h1 (key _ h (by rw [decide_eq_decide]; omega))
  · have hd : decide (errV n l = 0) = false := decide_eq_false h
    rw [hd, Bool.false_and]
    exact Ev.ite_neg h (Ev.step (f := fun _ => some false) (fun q => by rw [difference_CheckRefute.j0, if_pos rfl]) (Ev.now _))
/-! ### Accepted lists -/
theorem walk_of {L : List S71} : ∀ (l : List S71) (at_ : Int), (∀ a ∈ l, a ∈ L) → follows at_ l = true → IsWalk (L.map toA) at_.toNat (l.map toA) (endOf at_ l).toNat
  | [], at_, _, _ => rfl
  | a :: l, at_, hm, hf => by
    unfold follows at hf
    rw [Bool.and_eq_true, decide_eq_true_eq] at hf
    exact ⟨List.mem_map_of_mem (hm a (by simp)), by rw [← hf.1]; rfl, walk_of l a.f2 (fun b hb => hm b (by simp [hb])) hf.2⟩
theorem total_wsum : ∀ l : List S71, total l = wsum (l.map toA)
  | [] => rfl
  | a :: l => by
    show a.f3 + total l = a.f3 + wsum (l.map toA)
    rw [total_wsum l]
theorem ok_infeas {L : List S71} {r : List S55} (h : okUses L r = true) : ¬ Feas (L.map toA) := by
  unfold okUses at h
  cases hg : gather L r with
  | none => rw [hg] at h; cases h
  | some l =>
    rw [hg] at h
    cases l with
    | nil => cases h
    | cons a l =>
      simp only [okList, Bool.and_eq_true, decide_eq_true_eq] at h
      obtain ⟨h1, h2, h3⟩ := h
      have hm := (gather_mem hg).1
      have hw := walk_of (a :: l) a.f1 hm (by simp [follows, h1])
      have he : endOf a.f1 (a :: l) = a.f1 := h2
      rw [he] at hw
      intro hf
      have := feas_closed hf _ _ hw
      rw [← total_wsum] at this
      omega
/-- What is read out of the exact tables is a walk to the start that gains. -/
theorem recon_spec {N : Nat} {L : List S71} (hg : good N L) : ∀ (r : Nat), r ≤ 50 → ∀ (out : List S55) (start at_ sum : Int), 0 ≤ start → 0 ≤ at_ → exactT (L.map toA) r at_.toNat start.toNat < far → sum + exactT (L.map toA) r at_.toNat start.toNat < 0 →
    ∃ l : List S71, recon (L.map toA) L r out start at_ sum = out ++ l.map (·.f0) ∧ (∀ a ∈ l, a ∈ L) ∧ follows at_ l = true ∧ endOf at_ l = start ∧ sum + total l < 0 ∧ l.length = r
  | 0, _, out, start, at_, sum, h0, h1, h2, h3 => by
    have hd : at_.toNat = start.toNat := by
      apply Classical.byContradiction
      intro hne
      simp [exactT, diag, hne] at h2
    have hz : exactT (L.map toA) 0 at_.toNat start.toNat = 0 := by simp [exactT, diag, hd]
    rw [hz] at h3
    exact ⟨[], by simp [recon], fun a ha => (by cases ha), rfl, by show at_ = start; omega, by simpa [total] using h3, rfl⟩
  | r + 1, hr, out, start, at_, sum, h0, h1, h2, h3 => by
    have hns : ¬ start < 0 := by omega
    have hex : ∃ a ∈ L, fits (exactT (L.map toA) r) start at_ sum a = true := by
      rcases (exact_spec (good_small hg) (r + 1) (by omega) at_.toNat start.toNat).1 with h | ⟨w, hw, hlen, he⟩
      · omega
      · cases w with
        | nil => simp at hlen
        | cons b w =>
          obtain ⟨hb, hbs, hw⟩ := hw
          obtain ⟨a, ha, rfl⟩ := List.mem_map.1 hb
          have hga := hg a ha
          unfold goodA at hga
          have hl : w.length = r := by simpa using hlen
          have h4 := (exact_spec (good_small hg) r (by omega) (toA a).t start.toNat).2 w hw hl
          have h5 := wsum_small (good_small hg) w _ _ hw
          have h6 : (toA a).t = a.f2.toNat := rfl
          have h7 : (toA a).s = a.f1.toNat := rfl
          have h8 : wsum (toA a :: w) = a.f3 + wsum w := rfl
          rw [h6] at h4
          rw [h7] at hbs
          have hfs : fstOf start a = start := by unfold fstOf; rw [if_neg hns]
          refine ⟨a, ha, ?_⟩
          unfold fits
          simp only [Bool.and_eq_true, Bool.or_eq_true, decide_eq_true_eq, hfs]
          refine ⟨.inr (by omega), ?_, by omega⟩
          unfold far
          omega
    obtain ⟨a0, ha0, hfit0⟩ := hex
    cases hf : L.find? (fits (exactT (L.map toA) r) start at_ sum) with
    | none => exact absurd hfit0 (by simpa using List.find?_eq_none.1 hf a0 ha0)
    | some a =>
      have ha := List.mem_of_find?_eq_some hf
      have hfit := List.find?_some hf
      have hga := hg a ha
      unfold goodA at hga
      have hfs : fstOf start a = start := by unfold fstOf; rw [if_neg hns]
      unfold fits at hfit
      simp only [Bool.and_eq_true, Bool.or_eq_true, decide_eq_true_eq, hfs] at hfit
      obtain ⟨g1, g2, g3⟩ := hfit
      have g1' : a.f1 = at_ := g1.resolve_left hns
      obtain ⟨l, e1, e2, e3, e4, e5, e6⟩ := recon_spec hg r (by omega) (out ++ [a.f0]) start a.f2 (sum + a.f3) h0 (by omega) g2 g3
      refine ⟨a :: l, ?_, ?_, ?_, ?_, ?_, by simp [e6]⟩
      · rw [recon, hf]
        simp only [hfs]
        rw [e1]
        simp
      · intro b hb
        rcases List.mem_cons.1 hb with rfl | hb
        · exact ha
        · exact e2 b hb
      · simp [follows, g1', e3]
      · exact e4
      · simp only [total]; omega
theorem ref_ok {N K : Nat} (hN : N ≤ 13) {L : List S71} (hu : uniq L) (hg : good N L) (hK : K ≤ N) (hK1 : 1 ≤ K) (hfn : firstNeg (L.map toA) N K) : okUses L (refL (L.map toA) L K) = true ∧ (refL (L.map toA) L K).length = K := by
  obtain ⟨r, rfl⟩ : ∃ r, K = r + 1 := ⟨K - 1, by omega⟩
  obtain ⟨i, hi, hneg⟩ := hfn.1
  have hex : ∃ a ∈ L, fits (exactT (L.map toA) r) (-1) 0 0 a = true := by
    rcases (exact_spec (good_small hg) (r + 1) (by omega) i i).1 with h | ⟨w, hw, hlen, he⟩
    · unfold far at h; omega
    · cases w with
      | nil => simp at hlen
      | cons b w =>
        obtain ⟨hb, hbs, hw⟩ := hw
        obtain ⟨a, ha, rfl⟩ := List.mem_map.1 hb
        have hga := hg a ha
        unfold goodA at hga
        have hl : w.length = r := by simpa using hlen
        have h4 := (exact_spec (good_small hg) r (by omega) (toA a).t i).2 w hw hl
        have h5 := wsum_small (good_small hg) w _ _ hw
        have h6 : (toA a).t = a.f2.toNat := rfl
        have h7 : (toA a).s = a.f1.toNat := rfl
        have h8 : wsum (toA a :: w) = a.f3 + wsum w := rfl
        rw [h6] at h4
        rw [h7] at hbs
        have hfs : fstOf (-1) a = a.f1 := by unfold fstOf; rw [if_pos (by omega)]
        refine ⟨a, ha, ?_⟩
        unfold fits
        simp only [Bool.and_eq_true, Bool.or_eq_true, decide_eq_true_eq, hfs]
        rw [hbs]
        refine ⟨.inl (by omega), ?_, by omega⟩
        unfold far
        omega
  obtain ⟨a0, ha0, hfit0⟩ := hex
  cases hf : L.find? (fits (exactT (L.map toA) r) (-1) 0 0) with
  | none => exact absurd hfit0 (by simpa using List.find?_eq_none.1 hf a0 ha0)
  | some a =>
    have ha := List.mem_of_find?_eq_some hf
    have hfit := List.find?_some hf
    have hga := hg a ha
    unfold goodA at hga
    have hfs : fstOf (-1) a = a.f1 := by unfold fstOf; rw [if_pos (by omega)]
    unfold fits at hfit
    simp only [Bool.and_eq_true, Bool.or_eq_true, decide_eq_true_eq, hfs] at hfit
    obtain ⟨_, g2, g3⟩ := hfit
    obtain ⟨l, e1, e2, e3, e4, e5, e6⟩ := recon_spec hg r (by omega) ([] ++ [a.f0]) a.f1 a.f2 (0 + a.f3) (by omega) (by omega) g2 g3
    have he : refL (L.map toA) L (r + 1) = (a :: l).map (·.f0) := by
      unfold refL
      rw [recon, hf]
      simp only [hfs]
      rw [e1]
      simp
    rw [he]
    refine ⟨?_, by simp [e6]⟩
    unfold okUses
    rw [gather_of hu (a :: l) (fun b hb => by
      rcases List.mem_cons.1 hb with rfl | hb
      · exact ha
      · exact e2 b hb)]
    simp only [okList, Bool.and_eq_true, decide_eq_true_eq]
    refine ⟨e3, e4, ?_⟩
    simp only [total]
    omega
theorem sameU_loop (l : List S55) (hl : l.length ≤ 1000) : ∀ (rest pre : List S55), l = pre ++ rest → Ev (fun q => scarfjointref03_SameUses.l0 q l l (pre.length : Int)) true
  | [], pre, h => by
    refine Ev.step (f := fun _ => some true) (fun q => ?_) (Ev.now _)
    rw [scarfjointref03_SameUses.l0, if_neg (by rw [h]; simp)]
  | x :: rest, pre, h => by
    have hlen : pre.length < l.length := by rw [h]; simp
    have hw : wrap64 ((pre.length : Int) + 1) = ((pre ++ [x]).length : Int) := by rw [w64 (by omega)]; simp
    refine Ev.step (fun q => ?_) (sameU_loop l hl rest (pre ++ [x]) (by rw [h]; simp))
    rw [scarfjointref03_SameUses.l0, if_pos (by omega), if_pos (by omega), if_pos (by omega), hw, if_neg (by simp)]
theorem sameU_ev (l : List S55) (hl : l.length ≤ 1000) : Ev (fun q => scarfjointref03_SameUses.f q l l) true := by
  unfold scarfjointref03_SameUses.f
  exact Ev.ite_pos rfl (sameU_loop l hl l [] rfl)
theorem refute_law (n : Int) (l : List S26) : Ev (fun q => scarfjointlaw03_DifferenceRefute.f q n l) true := by
  unfold scarfjointlaw03_DifferenceRefute.f
  refine Ev.bind awake_ev ?_
  refine Ev.ite_pos rfl ?_
  by_cases hl : l.length ≤ 45
  · obtain ⟨R, hR, hK, hE⟩ := refute_ev n l
    obtain ⟨g1, g2, g3⟩ := Refute_ev n l
    refine Ev.step (f := fun q => (api_Test_14.f l).bind fun t515 => ((difference_Refute.f q n t515).bind fun bt518 => ((scarfjointref03_Refute.f q n l).bind fun bt522 => ((scarfjointref03_SameUses.f q bt518.1 bt522.1).bind fun t526 => (if t526 = true then (if bt518.2 = bt522.2 then (if bt518.2 = 0 then ((difference_CheckRefute.f q n l bt518.1).bind fun t527 => (some t527)) else (some true)) else (some false)) else (some false)))))) (fun q => ?_) ?_
    · rw [scarfjointlaw03_DifferenceRefute.j0, if_neg (by simp; omega)]
    · refine Ev.const_bind (clone_test hl) ?_
      refine Ev.bind hR ?_
      by_cases h : errV n l = 0
      · rw [if_pos h, if_pos h]
        by_cases hf : Feas ((arcsF 0 l).map toA)
        · rw [if_pos hf, hE h hf]
          refine Ev.bind (g2 h hf) ?_
          refine Ev.bind (sameU_ev [] (by simp)) ?_
          exact Ev.ite_pos rfl (Ev.ite_pos rfl (Ev.ite_neg (by decide) (Ev.now _)))
        · rw [if_neg hf]
          obtain ⟨K, hKn, hfn, rfl⟩ := hK h hf
          obtain ⟨h0, h12, h40, hv⟩ := errV_zero h
          have hgA := arcsF_good h0 h12 l 0 hv
          have hK1 := first_pos hfn
          obtain ⟨hok, hlen⟩ := ref_ok (by omega) (arcsF_uniq l 0) hgA hKn hK1 hfn
          refine Ev.bind (g3 h K hKn hfn hf) ?_
          refine Ev.bind (sameU_ev _ (by simp only; omega)) ?_
          refine Ev.ite_pos rfl (Ev.ite_pos rfl (Ev.ite_pos rfl ?_))
          have hc := chk_ev n l (refL ((arcsF 0 l).map toA) (arcsF 0 l) K)
          rw [decide_eq_true h, decide_eq_true (⟨by omega, by omega⟩ : 1 ≤ (refL ((arcsF 0 l).map toA) (arcsF 0 l) K).length ∧ (refL ((arcsF 0 l).map toA) (arcsF 0 l) K).length ≤ 40), hok] at hc
          exact Ev.bind hc (Ev.now true)
      · rw [if_neg h, if_neg h]
        refine Ev.bind (g1 h) ?_
        refine Ev.bind (sameU_ev [] (by simp)) ?_
        exact Ev.ite_pos rfl (Ev.ite_pos rfl (Ev.ite_neg h (Ev.now _)))
  · refine Ev.step (f := fun q => (scarfjointlaw03_awake.f q).bind fun t => some t) (fun q => ?_) awake_some
    rw [scarfjointlaw03_DifferenceRefute.j0, if_pos (by simp; omega)]
end Go.Proofs.Yteebkkdbkkibmaa.Pure
