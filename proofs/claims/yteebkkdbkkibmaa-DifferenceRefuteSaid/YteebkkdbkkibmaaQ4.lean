/- Functions of this claim and what their calls compute, written by wip/tools/mp.py, a variant of the kit printer. Conditions: each theorem has its own. -/
import Derived.Test.YteebkkdbkkibmaaPr0
import Derived.Test.YteebkkdbkkibmaaPr2
namespace Go.Proofs.Yteebkkdbkkibmaa.Pr
open Go.RowKit Go.Proofs.YteebkkdbkkibmaaW.PrintWords Go.Proofs.YteebkkdbkkibmaaW.PrintLast Go.Proofs.YteebkkdbkkibmaaW.PrintMore
attribute [local go_sem] max2_int min2_int max_two min_two max_three min_three max_four min_four   -- for this text's walks alone
set_option linter.unusedVariables false
set_option linter.unusedSimpArgs false

/-! ### difference_CheckRefute_1: function 54 -/

attribute [local go_sem high] eqA55
def difference_CheckRefute_1.f (x0 x1 x2 x3 x4 u0 u1 : Int) : Option Bool := some (x0 == u0 && x1 == u1)
set_option maxHeartbeats 1600000 in
set_option maxRecDepth 100000 in
theorem difference_CheckRefute_1.calls (x0 x1 x2 x3 x4 u0 u1 : Int) (r : Bool) (w : World) (h : difference_CheckRefute_1.f x0 x1 x2 x3 x4 u0 u1 = some r) {gb : Nat} (h0 : w.cell? ⟨gb, 0, none⟩ = some (.int .i64 u0)) (h1 : w.cell? ⟨gb, 1, none⟩ = some (.int .i64 u1)) :
    Calls Try.prog 54 #[.agg #[.int .i64 x0, .int .i64 x1, .int .i64 x2, .int .i64 x3, .int .i64 x4], .pointer (some ⟨gb, 0, none⟩)] w fun e w' => e = .returned (.bool r) ∧ Below w.heap.size w w' := by
  have hu71 := Try.underlying71
  have hu55 := Try.underlying55
  obtain rfl : r = (x0 == u0 && x1 == u1) := (Option.some.inj h).symm
  clear h
  have hl : gb < w.heap.size := World.block_lt_of_cell? w _ h0
  have hne : gb ≠ w.heap.size := by omega
  go_enter Try.func54, Try.ntmps54
  go_wp2
  go_ret
  exact ⟨rfl, (Below.refl _ w).alloc (Nat.le_refl _) _⟩


/-! ### difference_arc_53: function 53 -/
def difference_arc_53.l0 : Nat → List (S71) → Int → Int → Int → Int → Option (Int)
  | 0, _, _, _, _, _ => none
  | k + 1, x0, x1, x2, x7, x8 => if x8 < x7 then (if 0 ≤ x8 then (if x8 < (x0.length : Int) then ((difference_CheckRefute_1.f ((rd_T71 x0 x8).f0.f0) ((rd_T71 x0 x8).f0.f1) ((rd_T71 x0 x8).f1) ((rd_T71 x0 x8).f2) ((rd_T71 x0 x8).f3) x1 x2).bind fun t496 => (if t496 = true then (some x8) else (difference_arc_53.l0 k x0 x1 x2 x7 (wrap64 (x8 + 1))))) else (none)) else (none)) else (some (-1))
def difference_arc_53.f (k : Nat) (l0 : List (S71)) (a1 : Int) (a2 : Int) : Option (Int) := difference_arc_53.l0 k l0 a1 a2 (l0.length : Int) 0
theorem difference_arc_53.mono_l : ∀ k, (∀ y0 y1 y2 y3 y4, LeO (difference_arc_53.l0 k y0 y1 y2 y3 y4) (difference_arc_53.l0 (k + 1) y0 y1 y2 y3 y4))
  | 0 => fun _ _ _ _ _ r h => by simp [difference_arc_53.l0] at h
  | k + 1 => by
    have ih0 := difference_arc_53.mono_l k
    · intro y0 y1 y2 y3 y4
      unfold difference_arc_53.l0
      repeat' first
      | (with_reducible exact ih0 _ _ _ _ _)
      | (with_reducible exact LeO.refl _)
      | (with_reducible exact LeO.none _)
      | (with_reducible refine LeO.ite ?_ ?_)
      | (with_reducible refine LeO.bind ?_ (fun _ => ?_))
      | exact ih0 _ _ _ _ _
      | exact LeO.none _
      | refine LeO.ite ?_ ?_
      | refine LeO.bind ?_ (fun _ => ?_)
theorem difference_arc_53.mono : ∀ a0 a1 a2 k, LeO (difference_arc_53.f k a0 a1 a2) (difference_arc_53.f (k + 1) a0 a1 a2) := by
  intro a0 a1 a2 k
  have ih0 := difference_arc_53.mono_l k
  unfold difference_arc_53.f
  repeat' first
      | (with_reducible exact ih0 _ _ _ _ _)
      | (with_reducible exact LeO.refl _)
      | (with_reducible exact LeO.none _)
      | (with_reducible refine LeO.ite ?_ ?_)
      | (with_reducible refine LeO.bind ?_ (fun _ => ?_))
      | exact ih0 _ _ _ _ _
      | exact LeO.none _
      | refine LeO.ite ?_ ?_
      | refine LeO.bind ?_ (fun _ => ?_)
set_option maxHeartbeats 8000000 in
set_option maxRecDepth 100000 in
theorem difference_arc_53.calls (k : Nat) (A0 : Option Addr) (c0 : Nat) (l0 : List (S71)) (a1 : Int) (a2 : Int) (r : Int) (w : World) (hr0 : Kd.C k71 w A0 l0.length l0) (hc0 : l0.length ≤ c0) (h : difference_arc_53.f k l0 a1 a2 = some r) {gb : Nat} (hg0 : w.cell? ⟨gb, 0, none⟩ = some (.int .i64 a1)) (hg1 : w.cell? ⟨gb, 1, none⟩ = some (.int .i64 a2)) :
    Calls Try.prog 53 #[.slice A0 l0.length c0, .func (.func 54) #[] #[.pointer (some ⟨gb, 0, none⟩)]] w fun e w' => e = .returned (.int .i64 r) ∧ Below w.heap.size w w' := by
  have hu71 := Try.underlying71
  have HR0 := Aside0.mk hr0
  have HC0 := Aside0.mk hc0
  clear hr0 hc0
  have HG0 := Aside0.mk hg0
  have HG1 := Aside0.mk hg1
  clear hg0 hg1
  have HB := Aside0.mk (Below.refl w.heap.size w)
  have H : (difference_arc_53.l0 k l0 a1 a2 (l0.length : Int) 0) = some r := h
  clear h
  have H' := Aside0.mk H
  clear H
  go_enter Try.func53, Try.ntmps53
  go_wp2
  go_loopg [8] k (fun kq v8 w' => ∃ (x8_1 : Int), v8 = .int .i64 x8_1 ∧ Aside0 (difference_arc_53.l0 kq l0 a1 a2 (l0.length : Int) x8_1 = some r) ∧ Aside0 (kq ≤ k) ∧ Aside0 (Below w.heap.size w w'))
  case atStart => exact ⟨(0), (by first | rfl | (simp; done) | (simp [*]; done)), H', ⟨Nat.le_refl _⟩, ⟨by repeat (first | (with_reducible first | exact HB.out | apply below_alloc | apply pw_below_drewN | apply below_drew1) | exact HB.out)⟩⟩
  case round =>
    clear H'
    try clear p2
    obtain ⟨x8_1, rfl, HA, HK1, HB⟩ := hrel
    cases gk with
    | zero => exact absurd HA.out (by simp [difference_arc_53.l0])
    | succ k1 =>
      have H := HA.out
      clear HA
      simp only [difference_arc_53.l0] at H
      by_cases c4 : x8_1 < (l0.length : Int)
      · rw [if_pos c4] at H
        have c4b0 : decide (x8_1 < (l0.length : Int)) = true := decide_eq_true c4
        clear c4
        by_cases c5 : 0 ≤ x8_1
        · rw [if_pos c5] at H
          have c5b0 : decide (0 ≤ x8_1) = true := decide_eq_true c5
          clear c5
          by_cases c6 : x8_1 < (l0.length : Int)
          · rw [if_pos c6] at H
            have c6b0 : decide (x8_1 < (l0.length : Int)) = true := decide_eq_true c6
            clear c6
            replace H := Option.bind_eq_some_iff.mp H
            obtain ⟨t496, A70, H⟩ := H
            replace H : (if t496 = true then (some x8_1) else (difference_arc_53.l0 k1 l0 a1 a2 (l0.length : Int) (wrap64 (x8_1 + 1)))) = some r := H
            have A7 := Aside0.mk A70
            clear A70
            by_cases c8 : t496 = true
            · subst c8
              have H1 : (some x8_1) = some r := by rw [if_pos rfl] at H; exact H
              clear H
              have H := H1
              clear H1
              obtain rfl := Option.some.inj H
              have p495 : 0 ≤ (x8_1 : Int) := of_decide_eq_true (by first | (with_reducible assumption) | assumption)
              have q495 : x8_1 < (l0.length : Int) := of_decide_eq_true (by first | (with_reducible assumption) | assumption)
              obtain ⟨ad495, e495, hx495_0, hx495_1, hx495_2, hx495_3, hx495_4⟩ := at_T71 HR0.out x8_1 p495 q495
              cases e495
              replace hx495_0 := (HB.out.cell (World.block_lt_of_cell? w _ hx495_0)).trans hx495_0
              replace hx495_1 := (HB.out.cell (World.block_lt_of_cell? w _ hx495_1)).trans hx495_1
              replace hx495_2 := (HB.out.cell (World.block_lt_of_cell? w _ hx495_2)).trans hx495_2
              replace hx495_3 := (HB.out.cell (World.block_lt_of_cell? w _ hx495_3)).trans hx495_3
              replace hx495_4 := (HB.out.cell (World.block_lt_of_cell? w _ hx495_4)).trans hx495_4
              replace p495 := eq_true p495
              replace q495 := eq_true q495
              go_wp2_with (first | (go_at_call 54; (with_reducible refine (difference_CheckRefute_1.calls ((rd_T71 l0 x8_1).f0.f0) ((rd_T71 l0 x8_1).f0.f1) ((rd_T71 l0 x8_1).f1) ((rd_T71 l0 x8_1).f2) ((rd_T71 l0 x8_1).f3) a1 a2 true _ A7.out ?sg0 ?sg1).mono ?_); (case sg0 => exact pw_cell_below (by repeat (first | (with_reducible first | exact HB.out | apply below_alloc | apply pw_below_drewN | apply below_drew1) | exact HB.out)) HG0.out); (case sg1 => exact pw_cell_below (by repeat (first | (with_reducible first | exact HB.out | apply below_alloc | apply pw_below_drewN | apply below_drew1) | exact HB.out)) HG1.out); rintro e w9 ⟨rfl, hb⟩; have n0_ := Aside0.mk (below_step (by repeat (first | (with_reducible first | exact HB.out | apply below_alloc | apply pw_below_drewN | apply below_drew1) | exact HB.out)) hb); clear HB; have HB := n0_; clear n0_; (try clear hb); (try clear hb2); (try clear hk); (try clear hi)))
              go_ret
              exact ⟨by first | rfl | (simp [errW_none, errW_some] <;> rfl) | (simp [*, errW_none, errW_some] <;> rfl), by repeat (first | (with_reducible first | exact HB.out | apply below_alloc | apply pw_below_drewN | apply below_drew1) | exact HB.out)⟩
            · replace c8 := Bool.eq_false_iff.mpr c8
              subst c8
              have H1 : (difference_arc_53.l0 k1 l0 a1 a2 (l0.length : Int) (wrap64 (x8_1 + 1))) = some r := by rw [if_neg (show ¬ (false = true) by decide)] at H; exact H
              clear H
              have H := H1
              clear H1
              have H' := Aside0.mk H
              clear H
              have p495 : 0 ≤ (x8_1 : Int) := of_decide_eq_true (by first | (with_reducible assumption) | assumption)
              have q495 : x8_1 < (l0.length : Int) := of_decide_eq_true (by first | (with_reducible assumption) | assumption)
              obtain ⟨ad495, e495, hx495_0, hx495_1, hx495_2, hx495_3, hx495_4⟩ := at_T71 HR0.out x8_1 p495 q495
              cases e495
              replace hx495_0 := (HB.out.cell (World.block_lt_of_cell? w _ hx495_0)).trans hx495_0
              replace hx495_1 := (HB.out.cell (World.block_lt_of_cell? w _ hx495_1)).trans hx495_1
              replace hx495_2 := (HB.out.cell (World.block_lt_of_cell? w _ hx495_2)).trans hx495_2
              replace hx495_3 := (HB.out.cell (World.block_lt_of_cell? w _ hx495_3)).trans hx495_3
              replace hx495_4 := (HB.out.cell (World.block_lt_of_cell? w _ hx495_4)).trans hx495_4
              replace p495 := eq_true p495
              replace q495 := eq_true q495
              go_wp2_with (first | (go_at_call 54; (with_reducible refine (difference_CheckRefute_1.calls ((rd_T71 l0 x8_1).f0.f0) ((rd_T71 l0 x8_1).f0.f1) ((rd_T71 l0 x8_1).f1) ((rd_T71 l0 x8_1).f2) ((rd_T71 l0 x8_1).f3) a1 a2 false _ A7.out ?sg0 ?sg1).mono ?_); (case sg0 => exact pw_cell_below (by repeat (first | (with_reducible first | exact HB.out | apply below_alloc | apply pw_below_drewN | apply below_drew1) | exact HB.out)) HG0.out); (case sg1 => exact pw_cell_below (by repeat (first | (with_reducible first | exact HB.out | apply below_alloc | apply pw_below_drewN | apply below_drew1) | exact HB.out)) HG1.out); rintro e w10 ⟨rfl, hb⟩; have n0_ := Aside0.mk (below_step (by repeat (first | (with_reducible first | exact HB.out | apply below_alloc | apply pw_below_drewN | apply below_drew1) | exact HB.out)) hb); clear HB; have HB := n0_; clear n0_; (try clear hb); (try clear hb2); (try clear hk); (try clear hi)))
              go_roundg k1
              case measure => have := HK1.out; omega
              case rel => exact ⟨(wrap64 (x8_1 + 1)), (by first | rfl | (simp; done) | (simp [*]; done)), H', ⟨by have := HK1.out; omega⟩, ⟨by repeat (first | (with_reducible first | exact HB.out | apply below_alloc | apply pw_below_drewN | apply below_drew1) | exact HB.out)⟩⟩
          · rw [if_neg c6] at H
            exact absurd H (by simp)
        · rw [if_neg c5] at H
          exact absurd H (by simp)
      · rw [if_neg c4] at H
        have c4b0 : decide (x8_1 < (l0.length : Int)) = false := decide_eq_false c4
        clear c4
        obtain rfl := Option.some.inj H
        go_wp2
        go_ret
        exact ⟨by first | rfl | (simp [errW_none, errW_some] <;> rfl) | (simp [*, errW_none, errW_some] <;> rfl), by repeat (first | (with_reducible first | exact HB.out | apply below_alloc | apply pw_below_drewN | apply below_drew1) | exact HB.out)⟩

end Go.Proofs.Yteebkkdbkkibmaa.Pr
