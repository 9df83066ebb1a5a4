/- The law DifferenceHolds over the printed functions: it comes to true. Conditions: none. -/
import Derived.Test.YteebkkdbkkibmaaQ12
import Derived.Test.YteebkkdbkkibmaaPr28
import Derived.Test.YteebkkdbkkibmaaPr12
import Derived.Test.YteebkkdbkkibmaaPa
namespace Go.Proofs.Yteebkkdbkkibmaa.Pure
open Go.RowKit Go.Proofs.Yteebkkdbkkibmaa.Pr Go.Proofs.YteebkkdbkkibmaaW.PrintWords Go.Proofs.YteebkkdbkkibmaaW.PrintLast Go.Proofs.YteebkkdbkkibmaaW.PrintMore
set_option linter.unusedVariables false

theorem awake_ev : Ev (fun q => scarfjointlaw03_awake.f q) true := Ev.of scarfjointlaw03_awake.mono (k := 60) (by decide +kernel)
theorem awake_some : Ev (fun q => (scarfjointlaw03_awake.f q).bind fun t => some t) true := Ev.bind awake_ev (Ev.now true)
/-! ### Holds -/
theorem u64_mod (x : Int) : IntKind.u64.wrap x = x % 18446744073709551616 := by
  simp [IntKind.wrap, IntKind.signed, IntKind.bits]
theorem wide_eq {a b : Int} (ha : -1125899906842624 ≤ a ∧ a ≤ 1125899906842624) (hb : -1125899906842624 ≤ b ∧ b ≤ 1125899906842624) : difference_wide.f a b = some (if a + b < 0 then -1 else 0, (a + b) % 18446744073709551616) := by
  unfold difference_wide.f
  rw [u64_mod, u64_mod]
  have h1 : (a % 18446744073709551616 + b % 18446744073709551616) % 18446744073709551616 = (a + b) % 18446744073709551616 := by omega
  have w1 : wrap64 (a / 9223372036854775808 + b / 9223372036854775808) = a / 9223372036854775808 + b / 9223372036854775808 := w64 (by omega)
  have w2 : wrap64 ((a % 18446744073709551616 + b % 18446744073709551616) / 18446744073709551616) = (a % 18446744073709551616 + b % 18446744073709551616) / 18446744073709551616 := w64 (by omega)
  have w3 : wrap64 (a / 9223372036854775808 + b / 9223372036854775808 + (a % 18446744073709551616 + b % 18446744073709551616) / 18446744073709551616) = a / 9223372036854775808 + b / 9223372036854775808 + (a % 18446744073709551616 + b % 18446744073709551616) / 18446744073709551616 := w64 (by omega)
  rw [w1, w2, w3, h1]
  congr 2
  split <;> omega
/-- The value of a variable, or 0. -/
def var0 (v : List Int) (i : Int) : Int := if i = -1 then 0 else rd v i
theorem holds1_eq {v : List Int} (hv : ∀ i : Int, -1099511627776 ≤ rd v i ∧ rd v i ≤ 1099511627776) {i a : Int} (ha : -1099511627776 ≤ a ∧ a ≤ 1099511627776) (hi : -1 ≤ i ∧ i < v.length) : difference_Holds_1.f i a v = some (if var0 v i + a < 0 then -1 else 0, (var0 v i + a) % 18446744073709551616, true) := by
  unfold difference_Holds_1.f var0
  by_cases h : i = -1
  · rw [if_pos h, if_pos h, wide_eq (by omega) (by omega)]
    rfl
  · have := hv i
    rw [if_neg h, if_neg h, if_neg (by omega), if_neg (by omega), if_pos (by omega), if_pos (by omega), wide_eq (by omega) (by omega)]
    rfl
theorem comp_eq (a b : Int) : cmp_Compare_int.f a b = some (if a < b then -1 else if a > b then 1 else 0) := by
  unfold cmp_Compare_int.f cmp_isNaN_int.f
  simp
  split <;> (try split) <;> rfl
theorem compu_eq (a b : Int) : cmp_Compare_uint64.f a b = some (if a < b then -1 else if a > b then 1 else 0) := by
  unfold cmp_Compare_uint64.f cmp_isNaN_uint64.f
  simp
  split <;> (try split) <;> rfl
theorem or_ev (x y : Int) : Ev (fun q => cmp_Or_int.f q [x, y]) (if x = 0 then y else x) := by
  have w0 : wrap64 (0 + 1) = 1 := w64 (by omega)
  have w1 : wrap64 (1 + 1) = 2 := w64 (by omega)
  have r0 : rd [x, y] 0 = x := rfl
  have r1 : rd [x, y] 1 = y := rfl
  unfold cmp_Or_int.f
  have hl : (([x, y] : List Int).length : Int) = 2 := rfl
  rw [hl]
  by_cases hx : x = 0
  · rw [if_pos hx]
    by_cases hy : y = 0
    · refine Ev.step (f := fun q => cmp_Or_int.l0 q 0 [x, y] 2 1) (fun q => ?_) (Ev.step (f := fun q => cmp_Or_int.l0 q 0 [x, y] 2 2) (fun q => ?_) (Ev.step (f := fun _ => some y) (fun q => ?_) (Ev.now _)))
      · rw [cmp_Or_int.l0, if_pos (by omega), if_pos (by omega), hl, if_pos (by omega), r0, if_pos hx, w0]
      · rw [cmp_Or_int.l0, if_pos (by omega), if_pos (by omega), hl, if_pos (by omega), r1, if_pos hy, w1]
      · rw [cmp_Or_int.l0, if_neg (by omega), hy]
    · refine Ev.step (f := fun q => cmp_Or_int.l0 q 0 [x, y] 2 1) (fun q => ?_) (Ev.step (f := fun _ => some y) (fun q => ?_) (Ev.now _))
      · rw [cmp_Or_int.l0, if_pos (by omega), if_pos (by omega), hl, if_pos (by omega), r0, if_pos hx, w0]
      · rw [cmp_Or_int.l0, if_pos (by omega), if_pos (by omega), hl, if_pos (by omega), r1, if_neg hy]
  · rw [if_neg hx]
    refine Ev.step (f := fun _ => some x) (fun q => ?_) (Ev.now _)
    rw [cmp_Or_int.l0, if_pos (by omega), if_pos (by omega), hl, if_pos (by omega), r0, if_neg hx]
/-- Does the test hold of the values? -/
def holdsP (v : List Int) (x : S26) : Prop := (x.f0 = 1 ∧ var0 v x.f1.f0 + x.f1.f1 ≤ var0 v x.f2.f0 + x.f2.f1) ∨ (x.f0 = 2 ∧ var0 v x.f1.f0 + x.f1.f1 = var0 v x.f2.f0 + x.f2.f1)
theorem var0_small {v : List Int} (hv : ∀ i : Int, -1099511627776 ≤ rd v i ∧ rd v i ≤ 1099511627776) (i : Int) : -1099511627776 ≤ var0 v i ∧ var0 v i ≤ 1099511627776 := by
  unfold var0
  split
  · omega
  · exact hv i
theorem holds_ev {v : List Int} (hv : ∀ i : Int, -1099511627776 ≤ rd v i ∧ rd v i ≤ 1099511627776) {x : S26} (h1 : -1 ≤ x.f1.f0 ∧ x.f1.f0 < v.length) (h2 : -1 ≤ x.f2.f0 ∧ x.f2.f0 < v.length) (h3 : -1099511627776 ≤ x.f1.f1 ∧ x.f1.f1 ≤ 1099511627776) (h4 : -1099511627776 ≤ x.f2.f1 ∧ x.f2.f1 ≤ 1099511627776)
    {b : Bool} (hb : b = true ↔ holdsP v x) : Ev (fun q => difference_Holds.f q x.f0 x.f1.f0 x.f1.f1 x.f2.f0 x.f2.f1 v) b := by
  have hA := var0_small hv x.f1.f0
  have hB := var0_small hv x.f2.f0
  unfold difference_Holds.f
  refine Ev.const_bind (holds1_eq hv h3 h1) ?_
  refine Ev.const_bind (holds1_eq hv h4 h2) ?_
  refine Ev.ite_pos rfl ?_
  unfold holdsP at hb
  have hAB : ∃ A B : Int, A = var0 v x.f1.f0 + x.f1.f1 ∧ B = var0 v x.f2.f0 + x.f2.f1 := ⟨_, _, rfl, rfl⟩
  obtain ⟨A, B, eA, eB⟩ := hAB
  simp only [← eA, ← eB] at hb ⊢
  have kA : -4398046511104 ≤ A ∧ A ≤ 4398046511104 := by omega
  have kB : -4398046511104 ≤ B ∧ B ≤ 4398046511104 := by omega
  clear eA eB hA hB h1 h2 h3 h4 hv
  obtain ⟨c, hc⟩ : ∃ c : Int, c = if (if A < 0 then (-1 : Int) else 0) < (if B < 0 then (-1 : Int) else 0) then -1 else if (if A < 0 then (-1 : Int) else 0) > (if B < 0 then (-1 : Int) else 0) then 1 else 0 := ⟨_, rfl⟩
  obtain ⟨d, hd⟩ : ∃ d : Int, d = if A % 18446744073709551616 < B % 18446744073709551616 then -1 else if A % 18446744073709551616 > B % 18446744073709551616 then 1 else 0 := ⟨_, rfl⟩
  obtain ⟨o, ho⟩ : ∃ o : Int, o = if c = 0 then d else c := ⟨_, rfl⟩
  have hcv : (A < 0 ∧ 0 ≤ B ∧ c = -1) ∨ (0 ≤ A ∧ B < 0 ∧ c = 1) ∨ (c = 0 ∧ A < 0 ∧ B < 0) ∨ (c = 0 ∧ 0 ≤ A ∧ 0 ≤ B) := by
    by_cases a1 : A < 0 <;> by_cases b1 : B < 0 <;> simp [a1, b1] at hc <;> omega
  have hdv : (A % 18446744073709551616 < B % 18446744073709551616 ∧ d = -1) ∨ (A % 18446744073709551616 > B % 18446744073709551616 ∧ d = 1) ∨ (A % 18446744073709551616 = B % 18446744073709551616 ∧ d = 0) := by
    rw [hd]
    split
    · exact .inl ⟨by assumption, rfl⟩
    · split
      · exact .inr (.inl ⟨by assumption, rfl⟩)
      · exact .inr (.inr ⟨by omega, rfl⟩)
  have hov : (c = 0 ∧ o = d) ∨ (c ≠ 0 ∧ o = c) := by
    rw [ho]
    split
    · exact .inl ⟨by assumption, rfl⟩
    · exact .inr ⟨by assumption, rfl⟩
  have h1 : o ≤ 0 ↔ A ≤ B := by omega
  have h2 : o = 0 ↔ A = B := by omega
  refine Ev.step (f := fun q => (cmp_Or_int.f q [c, d]).bind fun t585 => (if x.f0 = 1 then (if t585 ≤ 0 then (some true) else (if x.f0 = 2 then (some (t585 == 0)) else (some false))) else (if x.f0 = 2 then (some (t585 == 0)) else (some false)))) (fun q => ?_) ?_
  · rw [difference_Holds.j0, if_neg (by simp), comp_eq, compu_eq, hc, hd]
    rfl
  · have hor := or_ev c d
    rw [← ho] at hor
    refine Ev.bind hor ?_
    have fin : ∀ b' : Bool, (b' = true ↔ ((x.f0 = 1 ∧ A ≤ B) ∨ (x.f0 = 2 ∧ A = B))) → Ev (fun _ => some b') b := fun b' hb' => by
      have : b' = b := Bool.eq_iff_iff.2 (hb'.trans hb.symm)
      rw [this]; exact Ev.now b
    by_cases k1 : x.f0 = 1
    · refine Ev.ite_pos k1 ?_
      by_cases ho1 : o ≤ 0
      · exact Ev.ite_pos ho1 (fin true ⟨fun _ => .inl ⟨k1, h1.1 ho1⟩, fun _ => rfl⟩)
      · exact Ev.ite_neg ho1 (Ev.ite_neg (by omega) (fin false ⟨fun h => (by cases h), fun h => by omega⟩))
    · refine Ev.ite_neg k1 ?_
      by_cases k2 : x.f0 = 2
      · exact Ev.ite_pos k2 (fin (o == 0) ⟨fun h => .inr ⟨k2, h2.1 (by simpa using h)⟩, fun h => by
          have : o = 0 := by omega
          simp [this]⟩)
      · exact Ev.ite_neg k2 (fin false ⟨fun h => (by cases h), fun h => by omega⟩)


/-! ### The law -/
theorem holds1_bad {v : List Int} {i a : Int} (hi : ¬ (-1 ≤ i ∧ i < v.length)) : difference_Holds_1.f i a v = some (0, 0, false) := by
  unfold difference_Holds_1.f
  rw [if_neg (by omega)]
  by_cases h : i < 0
  · rw [if_pos h]
  · rw [if_neg h, if_pos (by omega)]
theorem value_ok {v : List Int} (hv : ∀ i : Int, -1099511627776 ≤ rd v i ∧ rd v i ≤ 1099511627776) {i a : Int} (ha : -1099511627776 ≤ a ∧ a ≤ 1099511627776) (hi : -1 ≤ i ∧ i < v.length) : scarfjointref03_value.f i a v = some (var0 v i + a, true) := by
  unfold scarfjointref03_value.f var0
  by_cases h : i = -1
  · rw [if_pos h, if_pos h, Int.zero_add]
  · have := hv i
    have hw : wrap64 (rd v i + a) = rd v i + a := w64 (by omega)
    rw [if_neg h, if_neg h, if_neg (by omega), if_neg (by omega), if_pos (by omega), if_pos (by omega), hw]
theorem value_bad {v : List Int} {i a : Int} (hi : ¬ (-1 ≤ i ∧ i < v.length)) : scarfjointref03_value.f i a v = some (0, false) := by
  unfold scarfjointref03_value.f
  rw [if_neg (by omega)]
  by_cases h : i < 0
  · rw [if_pos h]
  · rw [if_neg h, if_pos (by omega)]
theorem wide_fn (a : Int) : scarfjointlaw03_DifferenceHolds_1.f a = some (decide (a < -1099511627776) || decide (a > 1099511627776)) := by
  unfold scarfjointlaw03_DifferenceHolds_1.f
  by_cases h : a < -1099511627776
  · rw [if_pos h]; simp [h]
  · rw [if_neg h]; simp [h]
theorem find_loop (l : List Int) (hl : l.length ≤ 1000) : ∀ (rest pre : List Int), l = pre ++ rest → ∃ i, Ev (fun q => slices_IndexFunc_int_int.l0 q l (l.length : Int) (pre.length : Int)) i ∧ (i < 0 → ∀ y ∈ rest, -1099511627776 ≤ y ∧ y ≤ 1099511627776)
  | [], pre, h => by
    refine ⟨-1, Ev.step (f := fun _ => some (-1)) (fun q => ?_) (Ev.now _), fun _ y hy => by cases hy⟩
    rw [slices_IndexFunc_int_int.l0, if_neg (by rw [h]; simp)]
  | y :: rest, pre, h => by
    have hlen : pre.length < l.length := by rw [h]; simp
    have hw : wrap64 ((pre.length : Int) + 1) = ((pre ++ [y]).length : Int) := by rw [w64 (by omega)]; simp
    have hrd : rd l (pre.length : Int) = y := by rw [h]; simp [rd]
    have hstep : ∀ q, slices_IndexFunc_int_int.l0 (q + 1) l (l.length : Int) (pre.length : Int) = if (decide (y < -1099511627776) || decide (y > 1099511627776)) = true then some (pre.length : Int) else slices_IndexFunc_int_int.l0 q l (l.length : Int) ((pre ++ [y]).length : Int) := by
      intro q
      rw [slices_IndexFunc_int_int.l0, if_pos (by omega), if_pos (by omega), if_pos (by omega), hrd, hw, wide_fn, Option.bind_some]
    by_cases hb : (decide (y < -1099511627776) || decide (y > 1099511627776)) = true
    · exact ⟨(pre.length : Int), Ev.step (f := fun _ => some (pre.length : Int)) (fun q => by rw [hstep, if_pos hb]) (Ev.now _), fun h9 => by omega⟩
    · obtain ⟨i, he, h1⟩ := find_loop l hl rest (pre ++ [y]) (by rw [h]; simp)
      refine ⟨i, Ev.step (fun q => by rw [hstep, if_neg hb]) he, fun h9 z hz => ?_⟩
      rcases List.mem_cons.1 hz with rfl | hz
      · simp at hb; omega
      · exact h1 h9 z hz
theorem rd_mem {v : List Int} (h : ∀ y ∈ v, -1099511627776 ≤ y ∧ y ≤ 1099511627776) (i : Int) : -1099511627776 ≤ rd v i ∧ rd v i ≤ 1099511627776 := by
  unfold rd
  rw [List.getD_eq_getElem?_getD]
  cases hv : v[i.toNat]? with
  | none => simp
  | some y => exact h y (List.mem_of_getElem? hv)
theorem holds_law (x : S26) (v : List Int) : Ev (fun q => scarfjointlaw03_DifferenceHolds.f q x.f0 x.f1.f0 x.f1.f1 x.f2.f0 x.f2.f1 v) true := by
  have hwake : Ev (fun q => scarfjointlaw03_DifferenceHolds.j0 q v true x.f0 x.f1.f0 x.f1.f1 x.f2.f0 x.f2.f1) true := Ev.step (f := fun q => (scarfjointlaw03_awake.f q).bind fun t => some t) (fun q => by rw [scarfjointlaw03_DifferenceHolds.j0, if_pos rfl]) awake_some
  unfold scarfjointlaw03_DifferenceHolds.f
  refine Ev.bind awake_ev ?_
  refine Ev.ite_pos rfl ?_
  by_cases hl : (v.length : Int) > 20
  · exact Ev.ite_pos hl hwake
  · refine Ev.ite_neg hl ?_
    refine Ev.const_bind (wide_fn _) ?_
    by_cases hb1 : (decide (x.f1.f1 < -1099511627776) || decide (x.f1.f1 > 1099511627776)) = true
    · exact Ev.ite_pos hb1 hwake
    · refine Ev.ite_neg hb1 ?_
      refine Ev.const_bind (wide_fn _) ?_
      by_cases hb2 : (decide (x.f2.f1 < -1099511627776) || decide (x.f2.f1 > 1099511627776)) = true
      · exact Ev.ite_pos hb2 hwake
      · refine Ev.ite_neg hb2 ?_
        have h3 : -1099511627776 ≤ x.f1.f1 ∧ x.f1.f1 ≤ 1099511627776 := by simp at hb1; omega
        have h4 : -1099511627776 ≤ x.f2.f1 ∧ x.f2.f1 ≤ 1099511627776 := by simp at hb2; omega
        obtain ⟨i, he, hno⟩ := find_loop v (by omega) v [] rfl
        have hc : Ev (fun q => slices_ContainsFunc_int_int.f q v 0) (decide (i ≥ 0)) := by
          unfold slices_ContainsFunc_int_int.f slices_IndexFunc_int_int.f
          exact Ev.bind he (Ev.now _)
        refine Ev.bind hc ?_
        by_cases hi : i ≥ 0
        · rw [decide_eq_true hi]; exact hwake
        · rw [decide_eq_false hi]
          have hv := rd_mem (hno (by omega))
          have hcl : slices_Clone_int_int.f v = some v := by
            unfold slices_Clone_int_int.f
            simp only [Option.bind_some, List.length_nil, List.nil_append]
            rw [if_pos (by omega)]
          refine Ev.step (f := fun q => (slices_Clone_int_int.f v).bind fun t664 => ((difference_Holds.f q x.f0 x.f1.f0 x.f1.f1 x.f2.f0 x.f2.f1 t664).bind fun t667 => ((scarfjointref03_Holds.f x.f0 x.f1.f0 x.f1.f1 x.f2.f0 x.f2.f1 v).bind fun t668 => (some (t667 == t668))))) (fun q => ?_) ?_
          · rw [scarfjointlaw03_DifferenceHolds.j0, if_neg (by simp)]
          · refine Ev.const_bind hcl ?_
            have fin : ∀ b : Bool, Ev (fun q => difference_Holds.f q x.f0 x.f1.f0 x.f1.f1 x.f2.f0 x.f2.f1 v) b → scarfjointref03_Holds.f x.f0 x.f1.f0 x.f1.f1 x.f2.f0 x.f2.f1 v = some b → Ev (fun q => (difference_Holds.f q x.f0 x.f1.f0 x.f1.f1 x.f2.f0 x.f2.f1 v).bind fun t667 => ((scarfjointref03_Holds.f x.f0 x.f1.f0 x.f1.f1 x.f2.f0 x.f2.f1 v).bind fun t668 => (some (t667 == t668)))) true := fun b g1 g2 => by
              refine Ev.bind g1 (Ev.const_bind g2 ?_)
              simpa using Ev.now true
            by_cases o1 : -1 ≤ x.f1.f0 ∧ x.f1.f0 < v.length
            · by_cases o2 : -1 ≤ x.f2.f0 ∧ x.f2.f0 < v.length
              · refine fin (@decide (holdsP v x) (Classical.propDecidable _)) (holds_ev hv o1 o2 h3 h4 (@decide_eq_true_iff _ (Classical.propDecidable _))) ?_
                unfold scarfjointref03_Holds.f
                rw [value_ok hv h3 o1, value_ok hv h4 o2]
                simp only [Option.bind_some, if_true]
                unfold holdsP
                by_cases k1 : x.f0 = 1
                · by_cases k3 : var0 v x.f1.f0 + x.f1.f1 ≤ var0 v x.f2.f0 + x.f2.f1
                  · simp [k1, k3]
                  · simp [k1, k3]
                · by_cases k2 : x.f0 = 2
                  · by_cases k3 : var0 v x.f1.f0 + x.f1.f1 = var0 v x.f2.f0 + x.f2.f1
                    · simp [k2, k3]
                    · simp [k2, k3]
                  · simp [k1, k2]
              · refine fin false ?_ ?_
                · unfold difference_Holds.f
                  refine Ev.const_bind (holds1_eq hv h3 o1) (Ev.const_bind (holds1_bad o2) (Ev.ite_pos rfl ?_))
                  exact Ev.step (f := fun _ => some false) (fun q => by rw [difference_Holds.j0, if_pos (by rfl)]) (Ev.now _)
                · unfold scarfjointref03_Holds.f
                  rw [value_ok hv h3 o1, value_bad o2]
                  simp
            · refine fin false ?_ ?_
              · have hx2 : ∃ z, difference_Holds_1.f x.f2.f0 x.f2.f1 v = some z := by
                  by_cases o2 : -1 ≤ x.f2.f0 ∧ x.f2.f0 < v.length
                  · exact ⟨_, holds1_eq hv h4 o2⟩
                  · exact ⟨_, holds1_bad o2⟩
                obtain ⟨z, hz⟩ := hx2
                unfold difference_Holds.f
                refine Ev.const_bind (holds1_bad o1) (Ev.const_bind hz (Ev.ite_neg (by simp) ?_))
                exact Ev.step (f := fun _ => some false) (fun q => by rw [difference_Holds.j0, if_pos rfl]) (Ev.now _)
              · have hx2 : ∃ z, scarfjointref03_value.f x.f2.f0 x.f2.f1 v = some z := by
                  by_cases o2 : -1 ≤ x.f2.f0 ∧ x.f2.f0 < v.length
                  · exact ⟨_, value_ok hv h4 o2⟩
                  · exact ⟨_, value_bad o2⟩
                obtain ⟨z, hz⟩ := hx2
                unfold scarfjointref03_Holds.f
                rw [value_bad o1, hz]
                simp
end Go.Proofs.Yteebkkdbkkibmaa.Pure
