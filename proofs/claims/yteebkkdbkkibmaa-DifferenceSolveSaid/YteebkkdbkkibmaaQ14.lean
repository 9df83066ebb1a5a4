/- Functions of this claim and what their calls compute, written by wip/tools/mp.py, a variant of the kit printer. Conditions: each theorem has its own. -/
import Derived.Test.YteebkkdbkkibmaaPr0
import Derived.Test.YteebkkdbkkibmaaQ13
namespace Go.Proofs.Yteebkkdbkkibmaa.Pr
open Go.RowKit Go.Proofs.YteebkkdbkkibmaaW.PrintWords Go.Proofs.YteebkkdbkkibmaaW.PrintLast Go.Proofs.YteebkkdbkkibmaaW.PrintMore
attribute [local go_sem] max2_int min2_int max_two min_two max_three min_three max_four min_four   -- for this text's walks alone
set_option linter.unusedVariables false
set_option linter.unusedSimpArgs false

/-! ### api_Test_60: function 60 -/
def api_Test_60.l0 : Nat → List (S26) → List Int → Int → Int → Option (Int)
  | 0, _, _, _, _ => none
  | k + 1, x0, x1, x7, x8 => if x8 < x7 then (if 0 ≤ x8 then (if x8 < (x0.length : Int) then ((scarfjointlaw03_DifferenceSolve_1.f k ((rd_T26 x0 x8).f0) ((rd_T26 x0 x8).f1.f0) ((rd_T26 x0 x8).f1.f1) ((rd_T26 x0 x8).f2.f0) ((rd_T26 x0 x8).f2.f1) x1).bind fun t636 => (if t636 = true then (some x8) else (api_Test_60.l0 k x0 x1 x7 (wrap64 (x8 + 1))))) else (none)) else (none)) else (some (-1))
def api_Test_60.f (k : Nat) (l0 : List (S26)) (l1 : List Int) : Option (Int) := api_Test_60.l0 k l0 l1 (l0.length : Int) 0
theorem api_Test_60.mono_l : ∀ k, (∀ y0 y1 y2 y3, LeO (api_Test_60.l0 k y0 y1 y2 y3) (api_Test_60.l0 (k + 1) y0 y1 y2 y3))
  | 0 => fun _ _ _ _ r h => by simp [api_Test_60.l0] at h
  | k + 1 => by
    have ih0 := api_Test_60.mono_l k
    · intro y0 y1 y2 y3
      unfold api_Test_60.l0
      repeat' first
      | (with_reducible exact ih0 _ _ _ _)
      | (with_reducible exact scarfjointlaw03_DifferenceSolve_1.mono _ _ _ _ _ _ _)
      | (with_reducible exact LeO.refl _)
      | (with_reducible exact LeO.none _)
      | (with_reducible refine LeO.ite ?_ ?_)
      | (with_reducible refine LeO.bind ?_ (fun _ => ?_))
      | exact ih0 _ _ _ _
      | exact scarfjointlaw03_DifferenceSolve_1.mono _ _ _ _ _ _ _
      | exact LeO.none _
      | refine LeO.ite ?_ ?_
      | refine LeO.bind ?_ (fun _ => ?_)
theorem api_Test_60.mono : ∀ a0 a1 k, LeO (api_Test_60.f k a0 a1) (api_Test_60.f (k + 1) a0 a1) := by
  intro a0 a1 k
  have ih0 := api_Test_60.mono_l k
  unfold api_Test_60.f
  repeat' first
      | (with_reducible exact ih0 _ _ _ _)
      | (with_reducible exact scarfjointlaw03_DifferenceSolve_1.mono _ _ _ _ _ _ _)
      | (with_reducible exact LeO.refl _)
      | (with_reducible exact LeO.none _)
      | (with_reducible refine LeO.ite ?_ ?_)
      | (with_reducible refine LeO.bind ?_ (fun _ => ?_))
      | exact ih0 _ _ _ _
      | exact scarfjointlaw03_DifferenceSolve_1.mono _ _ _ _ _ _ _
      | exact LeO.none _
      | refine LeO.ite ?_ ?_
      | refine LeO.bind ?_ (fun _ => ?_)
set_option maxHeartbeats 8000000 in
set_option maxRecDepth 100000 in
theorem api_Test_60.calls (k : Nat) (A0 : Option Addr) (c0 : Nat) (l0 : List (S26)) (A1 : Option Addr) (c1 : Nat) (l1 : List Int) (r : Int) (w : World) (hr0 : Kd.C k26 w A0 l0.length l0) (hc0 : l0.length ≤ c0) (hr1 : Kd.C (Kd.int .i64) w A1 l1.length l1) (hc1 : l1.length ≤ c1) (h : api_Test_60.f k l0 l1 = some r) {gb : Nat} (hg0 : w.cell? ⟨gb, 0, none⟩ = some (.slice A1 l1.length c1)) :
    Calls Try.prog 60 #[.slice A0 l0.length c0, .func (.func 34) #[] #[.pointer (some ⟨gb, 0, none⟩)]] w fun e w' => e = .returned (.int .i64 r) ∧ Below w.heap.size w w' := by
  have hu26 := Try.underlying26
  have HR0 := Aside0.mk hr0
  have HC0 := Aside0.mk hc0
  clear hr0 hc0
  have HR1 := Aside0.mk hr1
  have HC1 := Aside0.mk hc1
  clear hr1 hc1
  have HG0 := Aside0.mk hg0
  clear hg0
  have HB := Aside0.mk (Below.refl w.heap.size w)
  have H : (api_Test_60.l0 k l0 l1 (l0.length : Int) 0) = some r := h
  clear h
  have H' := Aside0.mk H
  clear H
  go_enter Try.func60, Try.ntmps60
  go_wp2
  go_loopg [8] k (fun kq v8 w' => ∃ (x8_1 : Int), v8 = .int .i64 x8_1 ∧ Aside0 (api_Test_60.l0 kq l0 l1 (l0.length : Int) x8_1 = some r) ∧ Aside0 (kq ≤ k) ∧ Aside0 (Below w.heap.size w w'))
  case atStart => exact ⟨(0), (by first | rfl | (simp; done) | (simp [*]; done)), H', ⟨Nat.le_refl _⟩, ⟨by repeat (first | (with_reducible first | exact HB.out | apply below_alloc | apply pw_below_drewN | apply below_drew1) | exact HB.out)⟩⟩
  case round =>
    clear H'
    try clear c1
    try clear p2
    obtain ⟨x8_1, rfl, HA, HK1, HB⟩ := hrel
    cases gk with
    | zero => exact absurd HA.out (by simp [api_Test_60.l0])
    | succ k1 =>
      have H := HA.out
      clear HA
      simp only [api_Test_60.l0] at H
      by_cases c3 : x8_1 < (l0.length : Int)
      · rw [if_pos c3] at H
        have c3b0 : decide (x8_1 < (l0.length : Int)) = true := decide_eq_true c3
        clear c3
        by_cases c4 : 0 ≤ x8_1
        · rw [if_pos c4] at H
          have c4b0 : decide (0 ≤ x8_1) = true := decide_eq_true c4
          clear c4
          by_cases c5 : x8_1 < (l0.length : Int)
          · rw [if_pos c5] at H
            have c5b0 : decide (x8_1 < (l0.length : Int)) = true := decide_eq_true c5
            clear c5
            replace H := Option.bind_eq_some_iff.mp H
            obtain ⟨t636, A60, H⟩ := H
            replace H : (if t636 = true then (some x8_1) else (api_Test_60.l0 k1 l0 l1 (l0.length : Int) (wrap64 (x8_1 + 1)))) = some r := H
            have A6 := Aside0.mk A60
            clear A60
            by_cases c7 : t636 = true
            · subst c7
              have H1 : (some x8_1) = some r := by rw [if_pos rfl] at H; exact H
              clear H
              have H := H1
              clear H1
              obtain rfl := Option.some.inj H
              have p635 : 0 ≤ (x8_1 : Int) := of_decide_eq_true (by first | (with_reducible assumption) | assumption)
              have q635 : x8_1 < (l0.length : Int) := of_decide_eq_true (by first | (with_reducible assumption) | assumption)
              obtain ⟨ad635, e635, hx635_0, hx635_1, hx635_2, hx635_3, hx635_4⟩ := at_T26 HR0.out x8_1 p635 q635
              cases e635
              replace hx635_0 := (HB.out.cell (World.block_lt_of_cell? w _ hx635_0)).trans hx635_0
              replace hx635_1 := (HB.out.cell (World.block_lt_of_cell? w _ hx635_1)).trans hx635_1
              replace hx635_2 := (HB.out.cell (World.block_lt_of_cell? w _ hx635_2)).trans hx635_2
              replace hx635_3 := (HB.out.cell (World.block_lt_of_cell? w _ hx635_3)).trans hx635_3
              replace hx635_4 := (HB.out.cell (World.block_lt_of_cell? w _ hx635_4)).trans hx635_4
              replace p635 := eq_true p635
              replace q635 := eq_true q635
              go_wp2_with (first | (go_at_call 34; (with_reducible refine (scarfjointlaw03_DifferenceSolve_1.calls k1 ((rd_T26 l0 x8_1).f0) ((rd_T26 l0 x8_1).f1.f0) ((rd_T26 l0 x8_1).f1.f1) ((rd_T26 l0 x8_1).f2.f0) ((rd_T26 l0 x8_1).f2.f1) A1 c1 l1 true _ ?side1 ?side2 A6.out ?sg0).mono ?_); (case sg0 => exact pw_cell_below (by repeat (first | (with_reducible first | exact HB.out | apply below_alloc | apply pw_below_drewN | apply below_drew1) | exact HB.out)) HG0.out); (case side1 => repeat (first | exact (Kd.C_below HR1.out HB.out) | (with_reducible refine Kd.C_alloc ?_ _) | (with_reducible refine Kd.C_drewN ?_ _) | (with_reducible refine Kd.C_drew ?_))); (case side2 => exact HC1.out); rintro e w8 ⟨rfl, hb⟩; have n0_ := Aside0.mk (below_step (by repeat (first | (with_reducible first | exact HB.out | apply below_alloc | apply pw_below_drewN | apply below_drew1) | exact HB.out)) hb); clear HB; have HB := n0_; clear n0_; (try clear hb); (try clear hb2); (try clear hk); (try clear hi)))
              go_ret
              exact ⟨by first | rfl | (simp [errW_none, errW_some] <;> rfl) | (simp [*, errW_none, errW_some] <;> rfl), by repeat (first | (with_reducible first | exact HB.out | apply below_alloc | apply pw_below_drewN | apply below_drew1) | exact HB.out)⟩
            · replace c7 := Bool.eq_false_iff.mpr c7
              subst c7
              have H1 : (api_Test_60.l0 k1 l0 l1 (l0.length : Int) (wrap64 (x8_1 + 1))) = some r := by rw [if_neg (show ¬ (false = true) by decide)] at H; exact H
              clear H
              have H := H1
              clear H1
              have H' := Aside0.mk H
              clear H
              have p635 : 0 ≤ (x8_1 : Int) := of_decide_eq_true (by first | (with_reducible assumption) | assumption)
              have q635 : x8_1 < (l0.length : Int) := of_decide_eq_true (by first | (with_reducible assumption) | assumption)
              obtain ⟨ad635, e635, hx635_0, hx635_1, hx635_2, hx635_3, hx635_4⟩ := at_T26 HR0.out x8_1 p635 q635
              cases e635
              replace hx635_0 := (HB.out.cell (World.block_lt_of_cell? w _ hx635_0)).trans hx635_0
              replace hx635_1 := (HB.out.cell (World.block_lt_of_cell? w _ hx635_1)).trans hx635_1
              replace hx635_2 := (HB.out.cell (World.block_lt_of_cell? w _ hx635_2)).trans hx635_2
              replace hx635_3 := (HB.out.cell (World.block_lt_of_cell? w _ hx635_3)).trans hx635_3
              replace hx635_4 := (HB.out.cell (World.block_lt_of_cell? w _ hx635_4)).trans hx635_4
              replace p635 := eq_true p635
              replace q635 := eq_true q635
              go_wp2_with (first | (go_at_call 34; (with_reducible refine (scarfjointlaw03_DifferenceSolve_1.calls k1 ((rd_T26 l0 x8_1).f0) ((rd_T26 l0 x8_1).f1.f0) ((rd_T26 l0 x8_1).f1.f1) ((rd_T26 l0 x8_1).f2.f0) ((rd_T26 l0 x8_1).f2.f1) A1 c1 l1 false _ ?side1 ?side2 A6.out ?sg0).mono ?_); (case sg0 => exact pw_cell_below (by repeat (first | (with_reducible first | exact HB.out | apply below_alloc | apply pw_below_drewN | apply below_drew1) | exact HB.out)) HG0.out); (case side1 => repeat (first | exact (Kd.C_below HR1.out HB.out) | (with_reducible refine Kd.C_alloc ?_ _) | (with_reducible refine Kd.C_drewN ?_ _) | (with_reducible refine Kd.C_drew ?_))); (case side2 => exact HC1.out); rintro e w9 ⟨rfl, hb⟩; have n0_ := Aside0.mk (below_step (by repeat (first | (with_reducible first | exact HB.out | apply below_alloc | apply pw_below_drewN | apply below_drew1) | exact HB.out)) hb); clear HB; have HB := n0_; clear n0_; (try clear hb); (try clear hb2); (try clear hk); (try clear hi)))
              go_roundg k1
              case measure => have := HK1.out; omega
              case rel => exact ⟨(wrap64 (x8_1 + 1)), (by first | rfl | (simp; done) | (simp [*]; done)), H', ⟨by have := HK1.out; omega⟩, ⟨by repeat (first | (with_reducible first | exact HB.out | apply below_alloc | apply pw_below_drewN | apply below_drew1) | exact HB.out)⟩⟩
          · rw [if_neg c5] at H
            exact absurd H (by simp)
        · rw [if_neg c4] at H
          exact absurd H (by simp)
      · rw [if_neg c3] at H
        have c3b0 : decide (x8_1 < (l0.length : Int)) = false := decide_eq_false c3
        clear c3
        obtain rfl := Option.some.inj H
        go_wp2
        go_ret
        exact ⟨by first | rfl | (simp [errW_none, errW_some] <;> rfl) | (simp [*, errW_none, errW_some] <;> rfl), by repeat (first | (with_reducible first | exact HB.out | apply below_alloc | apply pw_below_drewN | apply below_drew1) | exact HB.out)⟩

/-! ### api_Test_33: function 33 -/
def api_Test_33.f (k : Nat) (l0 : List (S26)) (l1 : List Int) : Option (Bool) := (api_Test_60.f k l0 l1).bind fun t637 => (some (decide (t637 ≥ 0)))
theorem api_Test_33.mono : ∀ a0 a1 k, LeO (api_Test_33.f k a0 a1) (api_Test_33.f (k + 1) a0 a1) := by
  intro a0 a1 k
  unfold api_Test_33.f
  repeat' first
      | (with_reducible exact api_Test_60.mono _ _ _)
      | (with_reducible exact LeO.refl _)
      | (with_reducible exact LeO.none _)
      | (with_reducible refine LeO.ite ?_ ?_)
      | (with_reducible refine LeO.bind ?_ (fun _ => ?_))
      | exact api_Test_60.mono _ _ _
      | exact LeO.none _
      | refine LeO.ite ?_ ?_
      | refine LeO.bind ?_ (fun _ => ?_)
set_option maxHeartbeats 8000000 in
set_option maxRecDepth 100000 in
theorem api_Test_33.calls (k : Nat) (A0 : Option Addr) (c0 : Nat) (l0 : List (S26)) (A1 : Option Addr) (c1 : Nat) (l1 : List Int) (r : Bool) (w : World) (hr0 : Kd.C k26 w A0 l0.length l0) (hc0 : l0.length ≤ c0) (hr1 : Kd.C (Kd.int .i64) w A1 l1.length l1) (hc1 : l1.length ≤ c1) (h : api_Test_33.f k l0 l1 = some r) {gb : Nat} (hg0 : w.cell? ⟨gb, 0, none⟩ = some (.slice A1 l1.length c1)) :
    Calls Try.prog 33 #[.slice A0 l0.length c0, .func (.func 34) #[] #[.pointer (some ⟨gb, 0, none⟩)]] w fun e w' => e = .returned (.bool r) ∧ Below w.heap.size w w' := by
  have HR0 := Aside0.mk hr0
  have HC0 := Aside0.mk hc0
  clear hr0 hc0
  have HR1 := Aside0.mk hr1
  have HC1 := Aside0.mk hc1
  clear hr1 hc1
  have HB := Aside0.mk (Below.refl w.heap.size w)
  have H : ((api_Test_60.f k l0 l1).bind fun t637 => (some (decide (t637 ≥ 0)))) = some r := h
  clear h
  replace H := Option.bind_eq_some_iff.mp H
  obtain ⟨t637, A30, H⟩ := H
  replace H : (some (decide (t637 ≥ 0))) = some r := H
  have A3 := Aside0.mk A30
  clear A30
  obtain rfl := Option.some.inj H
  go_enter Try.func33, Try.ntmps33
  go_wp2_with (first | ((with_reducible refine gate_callee (f := 60) rfl ?_); refine goesL_ (some 7) rfl rfl Try.func60 (by kernel_rfl) rfl #[.slice A0 l0.length c0, .func (.func 34) #[] #[.pointer (some ⟨gb, 0, none⟩)]] rfl (by (try simp only [List.map_toArray, List.map_cons, List.map_nil]); first | done | rfl | (simp only [List.length_drop, List.length_take]; rfl)) ?_; (with_reducible refine (api_Test_60.calls k _ _ l0 A1 c1 l1 t637 _ ?side1 ?side2 ?side3 ?side4 A3.out hg0).mono ?_); (case side1 => repeat (first | exact HR0.out | (with_reducible refine Kd.C_alloc ?_ _) | (with_reducible refine Kd.C_drewN ?_ _) | (with_reducible refine Kd.C_drew ?_))); (case side2 => exact HC0.out); (case side3 => repeat (first | exact HR1.out | (with_reducible refine Kd.C_alloc ?_ _) | (with_reducible refine Kd.C_drewN ?_ _) | (with_reducible refine Kd.C_drew ?_))); (case side4 => exact HC1.out); rintro e w4 ⟨rfl, hb⟩; refine ⟨_, rfl, ?_⟩; have n0_ := Aside0.mk (below_step (by repeat (first | (with_reducible first | exact HB.out | apply below_alloc | apply pw_below_drewN | apply below_drew1) | exact HB.out)) hb); clear HB; have HB := n0_; clear n0_; (try clear hb); (try clear hb2); (try clear hk); (try clear hi)))
  go_ret
  exact ⟨by first | rfl | (simp [errW_none, errW_some] <;> rfl) | (simp [*, errW_none, errW_some] <;> rfl), by repeat (first | (with_reducible first | exact HB.out | apply below_alloc | apply pw_below_drewN | apply below_drew1) | exact HB.out)⟩

-- NOT PRINTED: function 10 (scarfjointlaw03_DifferenceSolve)

end Go.Proofs.Yteebkkdbkkibmaa.Pr
