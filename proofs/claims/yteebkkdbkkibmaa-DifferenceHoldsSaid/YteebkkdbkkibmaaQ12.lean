/- Functions of this claim and what their calls compute, written by wip/tools/mp.py, a variant of the kit printer. Conditions: each theorem has its own. -/
import Derived.Test.YteebkkdbkkibmaaPr0
import Derived.Test.YteebkkdbkkibmaaQ9
import Derived.Test.YteebkkdbkkibmaaQ11
import Derived.Test.YteebkkdbkkibmaaPr12
import Derived.Test.YteebkkdbkkibmaaPr28
namespace Go.Proofs.Yteebkkdbkkibmaa.Pr
open Go.RowKit Go.Proofs.YteebkkdbkkibmaaW.PrintWords Go.Proofs.YteebkkdbkkibmaaW.PrintLast Go.Proofs.YteebkkdbkkibmaaW.PrintMore
attribute [local go_sem] max2_int min2_int max_two min_two max_three min_three max_four min_four   -- for this text's walks alone
set_option linter.unusedVariables false
set_option linter.unusedSimpArgs false

/-! ### scarfjointlaw03_DifferenceHolds: function 11 -/
def scarfjointlaw03_DifferenceHolds.j0 : Nat → List Int → Bool → Int → Int → Int → Int → Int → Option (Bool)
  | 0, _, _, _, _, _, _, _ => none
  | k + 1, x1, x31, x659000, x659001, x659002, x659003, x659004 => if x31 = true then ((scarfjointlaw03_awake.f k).bind fun t663 => (some t663)) else ((slices_Clone_int_int.f x1).bind fun t664 => ((difference_Holds.f k x659000 x659001 x659002 x659003 x659004 t664).bind fun t667 => ((scarfjointref03_Holds.f x659000 x659001 x659002 x659003 x659004 x1).bind fun t668 => (some (t667 == t668)))))
def scarfjointlaw03_DifferenceHolds.f (k : Nat) (a0_0 : Int) (a0_1 : Int) (a0_2 : Int) (a0_3 : Int) (a0_4 : Int) (l1 : List Int) : Option (Bool) := (scarfjointlaw03_awake.f k).bind fun t659 => (if t659 = true then (if (l1.length : Int) > 20 then (scarfjointlaw03_DifferenceHolds.j0 k l1 true a0_0 a0_1 a0_2 a0_3 a0_4) else ((scarfjointlaw03_DifferenceHolds_1.f a0_2).bind fun t660 => (if t660 = true then (scarfjointlaw03_DifferenceHolds.j0 k l1 true a0_0 a0_1 a0_2 a0_3 a0_4) else ((scarfjointlaw03_DifferenceHolds_1.f a0_4).bind fun t661 => (if t661 = true then (scarfjointlaw03_DifferenceHolds.j0 k l1 true a0_0 a0_1 a0_2 a0_3 a0_4) else ((slices_ContainsFunc_int_int.f k l1 0).bind fun t662 => (scarfjointlaw03_DifferenceHolds.j0 k l1 t662 a0_0 a0_1 a0_2 a0_3 a0_4))))))) else (scarfjointlaw03_DifferenceHolds.j0 k l1 true a0_0 a0_1 a0_2 a0_3 a0_4))
theorem scarfjointlaw03_DifferenceHolds.mono_l : ∀ k, (∀ y0 y1 y2 y3 y4 y5 y6, LeO (scarfjointlaw03_DifferenceHolds.j0 k y0 y1 y2 y3 y4 y5 y6) (scarfjointlaw03_DifferenceHolds.j0 (k + 1) y0 y1 y2 y3 y4 y5 y6))
  | 0 => fun _ _ _ _ _ _ _ r h => by simp [scarfjointlaw03_DifferenceHolds.j0] at h
  | k + 1 => by
    have ih0 := scarfjointlaw03_DifferenceHolds.mono_l k
    · intro y0 y1 y2 y3 y4 y5 y6
      unfold scarfjointlaw03_DifferenceHolds.j0
      repeat' first
      | (with_reducible exact ih0 _ _ _ _ _ _ _)
      | (with_reducible exact difference_Holds.mono _ _ _ _ _ _ _)
      | (with_reducible exact scarfjointlaw03_awake.mono _)
      | (with_reducible exact slices_ContainsFunc_int_int.mono _ _ _)
      | (with_reducible exact LeO.refl _)
      | (with_reducible exact LeO.none _)
      | (with_reducible refine LeO.ite ?_ ?_)
      | (with_reducible refine LeO.bind ?_ (fun _ => ?_))
      | exact ih0 _ _ _ _ _ _ _
      | exact difference_Holds.mono _ _ _ _ _ _ _
      | exact scarfjointlaw03_awake.mono _
      | exact slices_ContainsFunc_int_int.mono _ _ _
      | exact LeO.none _
      | refine LeO.ite ?_ ?_
      | refine LeO.bind ?_ (fun _ => ?_)
theorem scarfjointlaw03_DifferenceHolds.mono : ∀ a0 a1 a2 a3 a4 a5 k, LeO (scarfjointlaw03_DifferenceHolds.f k a0 a1 a2 a3 a4 a5) (scarfjointlaw03_DifferenceHolds.f (k + 1) a0 a1 a2 a3 a4 a5) := by
  intro a0 a1 a2 a3 a4 a5 k
  have ih0 := scarfjointlaw03_DifferenceHolds.mono_l k
  unfold scarfjointlaw03_DifferenceHolds.f
  repeat' first
      | (with_reducible exact ih0 _ _ _ _ _ _ _)
      | (with_reducible exact difference_Holds.mono _ _ _ _ _ _ _)
      | (with_reducible exact scarfjointlaw03_awake.mono _)
      | (with_reducible exact slices_ContainsFunc_int_int.mono _ _ _)
      | (with_reducible exact LeO.refl _)
      | (with_reducible exact LeO.none _)
      | (with_reducible refine LeO.ite ?_ ?_)
      | (with_reducible refine LeO.bind ?_ (fun _ => ?_))
      | exact ih0 _ _ _ _ _ _ _
      | exact difference_Holds.mono _ _ _ _ _ _ _
      | exact scarfjointlaw03_awake.mono _
      | exact slices_ContainsFunc_int_int.mono _ _ _
      | exact LeO.none _
      | refine LeO.ite ?_ ?_
      | refine LeO.bind ?_ (fun _ => ?_)
def scarfjointlaw03_DifferenceHolds.T4 : Bool × List (List Nat × List Nat) := (true, [([], []), ([], []), ([1], [1]), ([0, 2, 2], [0, 2]), ([], []), ([], []), ([4, 5, 3], [4, 5]), ([3, 6], [3, 6]), ([7, 6, 0, 1, 2, 3, 4, 5, 6, 7], [7])])
def scarfjointlaw03_DifferenceHolds.B4 : List Nat := [0, 0, 2, 7, 0, 0, 63, 127, 255]
theorem scarfjointlaw03_DifferenceHolds.tab4 : rtab .any (opsOf Try.f11 4) = scarfjointlaw03_DifferenceHolds.T4 := by kernel_rfl
theorem scarfjointlaw03_DifferenceHolds.bits4 : waitsOk scarfjointlaw03_DifferenceHolds.T4.2 scarfjointlaw03_DifferenceHolds.B4 = true := by kernel_rfl
set_option maxHeartbeats 8000000 in
set_option maxRecDepth 100000 in
theorem scarfjointlaw03_DifferenceHolds.calls (k : Nat) (a0_0 : Int) (a0_1 : Int) (a0_2 : Int) (a0_3 : Int) (a0_4 : Int) (A1 : Option Addr) (c1 : Nat) (l1 : List Int) (r : Bool) (w : World) (hr1 : Kd.C (Kd.int .i64) w A1 l1.length l1) (hc1 : l1.length ≤ c1) (h : scarfjointlaw03_DifferenceHolds.f k a0_0 a0_1 a0_2 a0_3 a0_4 l1 = some r) :
    Calls Try.prog 11 #[.agg #[.int .i64 a0_0, .int .i64 a0_1, .int .i64 a0_2, .int .i64 a0_3, .int .i64 a0_4], .slice A1 l1.length c1] w fun e w' => e = .returned (.bool r) ∧ Below w.heap.size w w' := by
  have hu26 := Try.underlying26
  have HR1 := Aside0.mk hr1
  have HC1 := Aside0.mk hc1
  clear hr1 hc1
  have HB := Aside0.mk (Below.refl w.heap.size w)
  have H : ((scarfjointlaw03_awake.f k).bind fun t659 => (if t659 = true then (if (l1.length : Int) > 20 then (scarfjointlaw03_DifferenceHolds.j0 k l1 true a0_0 a0_1 a0_2 a0_3 a0_4) else ((scarfjointlaw03_DifferenceHolds_1.f a0_2).bind fun t660 => (if t660 = true then (scarfjointlaw03_DifferenceHolds.j0 k l1 true a0_0 a0_1 a0_2 a0_3 a0_4) else ((scarfjointlaw03_DifferenceHolds_1.f a0_4).bind fun t661 => (if t661 = true then (scarfjointlaw03_DifferenceHolds.j0 k l1 true a0_0 a0_1 a0_2 a0_3 a0_4) else ((slices_ContainsFunc_int_int.f k l1 0).bind fun t662 => (scarfjointlaw03_DifferenceHolds.j0 k l1 t662 a0_0 a0_1 a0_2 a0_3 a0_4))))))) else (scarfjointlaw03_DifferenceHolds.j0 k l1 true a0_0 a0_1 a0_2 a0_3 a0_4))) = some r := h
  clear h
  have HC3 := Aside0.mk H
  clear H
  go_enter Try.func11, Try.ntmps11
  go_upto_region 2 with (first | ((with_reducible refine gate_dst (N := 2) rfl ?_); (try (refine gate_guard (by rfl) ?_; dsimp only)); refine box_event ?hg (N := 2) ?hd (cs := #[.int .i64 a0_0, .int .i64 a0_1, .int .i64 a0_2, .int .i64 a0_3, .int .i64 a0_4]) (t := 26) ?hr ?_; (case hd => rfl); (case hg => rfl); (case hr => first | (go_simp; done) | (go_simp; rfl)); intro gb658 hg w4 hbox hb; have n0_ := Aside0.mk (below_step (by repeat (first | (with_reducible first | exact HB.out | apply below_alloc | apply pw_below_drewN | apply below_drew1) | exact HB.out)) hb); have n1_ := Aside0.mk (hbox); have n2_ := Aside0.mk ((by rw [hg]; exact (below_size (by repeat (first | (with_reducible first | exact HB.out | apply below_alloc | apply pw_below_drewN | apply below_drew1) | exact HB.out))) : w.heap.size ≤ gb658)); have n3_ := Aside0.mk ((by rw [hg]; exact (below_size (by repeat (first | (with_reducible first | exact HB.out | apply below_alloc | apply pw_below_drewN | apply below_drew1) | exact HB.out))) : w.heap.size ≤ gb658)); clear HB; have HB := n0_; have BK658 := n1_; have GW658 := n2_; have GE658 := n3_; clear n0_ n1_ n2_ n3_; clear hb hbox hg))
  (try simp only [Act.put, List.setIfInBounds_toArray, List.set_cons_zero, List.set_cons_succ])
  go_cut [31] (fun v31 wc => ∃ (kq : Nat) (x31_2 : Bool), v31 = .bool x31_2 ∧ Aside0 (scarfjointlaw03_DifferenceHolds.j0 kq l1 x31_2 a0_0 a0_1 a0_2 a0_3 a0_4 = some r) ∧ Aside0 (kq ≤ k) ∧ Aside0 (wc.heap[gb658]? = some (.cells #[.int .i64 a0_0, .int .i64 a0_1, .int .i64 a0_2, .int .i64 a0_3, .int .i64 a0_4] 26 (0, 0))) ∧ Aside0 (Below w.heap.size w wc))
  case first =>
    have H := HC3.out
    clear HC3
    replace H := Option.bind_eq_some_iff.mp H
    obtain ⟨t659, A50, H⟩ := H
    replace H : (if t659 = true then (if (l1.length : Int) > 20 then (scarfjointlaw03_DifferenceHolds.j0 k l1 true a0_0 a0_1 a0_2 a0_3 a0_4) else ((scarfjointlaw03_DifferenceHolds_1.f a0_2).bind fun t660 => (if t660 = true then (scarfjointlaw03_DifferenceHolds.j0 k l1 true a0_0 a0_1 a0_2 a0_3 a0_4) else ((scarfjointlaw03_DifferenceHolds_1.f a0_4).bind fun t661 => (if t661 = true then (scarfjointlaw03_DifferenceHolds.j0 k l1 true a0_0 a0_1 a0_2 a0_3 a0_4) else ((slices_ContainsFunc_int_int.f k l1 0).bind fun t662 => (scarfjointlaw03_DifferenceHolds.j0 k l1 t662 a0_0 a0_1 a0_2 a0_3 a0_4))))))) else (scarfjointlaw03_DifferenceHolds.j0 k l1 true a0_0 a0_1 a0_2 a0_3 a0_4)) = some r := H
    have A5 := Aside0.mk A50
    clear A50
    by_cases c6 : t659 = true
    · subst c6
      have H1 : (if (l1.length : Int) > 20 then (scarfjointlaw03_DifferenceHolds.j0 k l1 true a0_0 a0_1 a0_2 a0_3 a0_4) else ((scarfjointlaw03_DifferenceHolds_1.f a0_2).bind fun t660 => (if t660 = true then (scarfjointlaw03_DifferenceHolds.j0 k l1 true a0_0 a0_1 a0_2 a0_3 a0_4) else ((scarfjointlaw03_DifferenceHolds_1.f a0_4).bind fun t661 => (if t661 = true then (scarfjointlaw03_DifferenceHolds.j0 k l1 true a0_0 a0_1 a0_2 a0_3 a0_4) else ((slices_ContainsFunc_int_int.f k l1 0).bind fun t662 => (scarfjointlaw03_DifferenceHolds.j0 k l1 t662 a0_0 a0_1 a0_2 a0_3 a0_4))))))) = some r := by rw [if_pos rfl] at H; exact H
      clear H
      have H := H1
      clear H1
      by_cases c7 : (l1.length : Int) > 20
      · rw [if_pos c7] at H
        have c7b0 : decide (20 < (l1.length : Int)) = true := decide_eq_true c7
        have c7b1 : decide (20 < l1.length) = true := decide_eq_true (by omega)
        clear c7
        (first | rw [c7b0] | (simp only [i64_w, i32_w]; rw [c7b0]) | skip)
        have H' := Aside0.mk H
        clear H
        go_wp2_with (first | ((with_reducible refine gate_callee (f := 12) rfl ?_); refine goesL_ (some 6) rfl rfl Try.func12 (by kernel_rfl) rfl #[] rfl (by (try simp only [List.map_toArray, List.map_cons, List.map_nil]); first | done | rfl | (simp only [List.length_drop, List.length_take]; rfl)) ?_; (with_reducible refine (scarfjointlaw03_awake.calls k  true _ A5.out).mono ?_); rintro e w8 ⟨rfl, hb⟩; refine ⟨_, rfl, ?_⟩; have n0_ := Aside0.mk (blk_below (g := gb658) (o := .cells #[.int .i64 a0_0, .int .i64 a0_1, .int .i64 a0_2, .int .i64 a0_3, .int .i64 a0_4] 26 (0, 0)) (by (with_reducible repeat (first | refine blk_drewN ?_ _ | refine blk_drew ?_ | refine blk_alloc ?_ _)); exact BK658.out) hb); have n1_ := Aside0.mk (below_step (by repeat (first | (with_reducible first | exact HB.out | apply below_alloc | apply pw_below_drewN | apply below_drew1 | refine below_set ?_ GE658.out) | exact HB.out)) hb); clear BK658; clear HB; have BK658 := n0_; have HB := n1_; clear n0_ n1_; (try clear hb); (try clear hb2); (try clear hk); (try clear hi)))
        go_meet
        case rel => exact ⟨_, (true), (by first | rfl | (simp; done) | (simp [*]; done)), H', ⟨by first | omega | exact Nat.le_refl _⟩, ⟨by (with_reducible repeat (first | refine blk_drewN ?_ _ | refine blk_drew ?_ | refine blk_alloc ?_ _)); exact BK658.out⟩, ⟨by repeat (first | (with_reducible first | exact HB.out | apply below_alloc | apply pw_below_drewN | apply below_drew1 | refine below_set ?_ GE658.out) | exact HB.out)⟩⟩
      · rw [if_neg c7] at H
        have c7b0 : decide (20 < (l1.length : Int)) = false := decide_eq_false c7
        have c7b1 : decide (20 < l1.length) = false := decide_eq_false (by omega)
        clear c7
        (first | rw [c7b0] | (simp only [i64_w, i32_w]; rw [c7b0]) | skip)
        replace H := Option.bind_eq_some_iff.mp H
        obtain ⟨t660, A90, H⟩ := H
        replace H : (if t660 = true then (scarfjointlaw03_DifferenceHolds.j0 k l1 true a0_0 a0_1 a0_2 a0_3 a0_4) else ((scarfjointlaw03_DifferenceHolds_1.f a0_4).bind fun t661 => (if t661 = true then (scarfjointlaw03_DifferenceHolds.j0 k l1 true a0_0 a0_1 a0_2 a0_3 a0_4) else ((slices_ContainsFunc_int_int.f k l1 0).bind fun t662 => (scarfjointlaw03_DifferenceHolds.j0 k l1 t662 a0_0 a0_1 a0_2 a0_3 a0_4))))) = some r := H
        have A9 := Aside0.mk A90
        clear A90
        by_cases c10 : t660 = true
        · subst c10
          have H1 : (scarfjointlaw03_DifferenceHolds.j0 k l1 true a0_0 a0_1 a0_2 a0_3 a0_4) = some r := by rw [if_pos rfl] at H; exact H
          clear H
          have H := H1
          clear H1
          have H' := Aside0.mk H
          clear H
          go_wp2_with (first | ((with_reducible refine gate_callee (f := 12) rfl ?_); refine goesL_ (some 6) rfl rfl Try.func12 (by kernel_rfl) rfl #[] rfl (by (try simp only [List.map_toArray, List.map_cons, List.map_nil]); first | done | rfl | (simp only [List.length_drop, List.length_take]; rfl)) ?_; (with_reducible refine (scarfjointlaw03_awake.calls k  true _ A5.out).mono ?_); rintro e w11 ⟨rfl, hb⟩; refine ⟨_, rfl, ?_⟩; have n0_ := Aside0.mk (blk_below (g := gb658) (o := .cells #[.int .i64 a0_0, .int .i64 a0_1, .int .i64 a0_2, .int .i64 a0_3, .int .i64 a0_4] 26 (0, 0)) (by (with_reducible repeat (first | refine blk_drewN ?_ _ | refine blk_drew ?_ | refine blk_alloc ?_ _)); exact BK658.out) hb); have n1_ := Aside0.mk (below_step (by repeat (first | (with_reducible first | exact HB.out | apply below_alloc | apply pw_below_drewN | apply below_drew1 | refine below_set ?_ GE658.out) | exact HB.out)) hb); clear BK658; clear HB; have BK658 := n0_; have HB := n1_; clear n0_ n1_; (try clear hb); (try clear hb2); (try clear hk); (try clear hi); have hcz12_0 : w11.cell? ⟨gb658, 0, none⟩ = some (.int .i64 a0_0) := (blk_cell BK658.out 0).trans rfl; have hcz12_1 : w11.cell? ⟨gb658, 1, none⟩ = some (.int .i64 a0_1) := (blk_cell BK658.out 1).trans rfl; have hcz12_2 : w11.cell? ⟨gb658, 2, none⟩ = some (.int .i64 a0_2) := (blk_cell BK658.out 2).trans rfl; have hcz12_3 : w11.cell? ⟨gb658, 3, none⟩ = some (.int .i64 a0_3) := (blk_cell BK658.out 3).trans rfl; have hcz12_4 : w11.cell? ⟨gb658, 4, none⟩ = some (.int .i64 a0_4) := (blk_cell BK658.out 4).trans rfl; have hfz12_0 := blk_frozen BK658.out 0; have hfz12_1 := blk_frozen BK658.out 1; have hfz12_2 := blk_frozen BK658.out 2; have hfz12_3 := blk_frozen BK658.out 3; have hfz12_4 := blk_frozen BK658.out 4) | (go_at_call 35; (with_reducible refine (scarfjointlaw03_DifferenceHolds_1.calls a0_2 true _ A9.out).mono ?_); rintro e w' ⟨rfl, ⟨nd, rfl⟩⟩))
          go_meet
          case rel => exact ⟨_, (true), (by first | rfl | (simp; done) | (simp [*]; done)), H', ⟨by first | omega | exact Nat.le_refl _⟩, ⟨by (with_reducible repeat (first | refine blk_drewN ?_ _ | refine blk_drew ?_ | refine blk_alloc ?_ _)); exact BK658.out⟩, ⟨by repeat (first | (with_reducible first | exact HB.out | apply below_alloc | apply pw_below_drewN | apply below_drew1 | refine below_set ?_ GE658.out) | exact HB.out)⟩⟩
        · replace c10 := Bool.eq_false_iff.mpr c10
          subst c10
          have H1 : ((scarfjointlaw03_DifferenceHolds_1.f a0_4).bind fun t661 => (if t661 = true then (scarfjointlaw03_DifferenceHolds.j0 k l1 true a0_0 a0_1 a0_2 a0_3 a0_4) else ((slices_ContainsFunc_int_int.f k l1 0).bind fun t662 => (scarfjointlaw03_DifferenceHolds.j0 k l1 t662 a0_0 a0_1 a0_2 a0_3 a0_4)))) = some r := by rw [if_neg (show ¬ (false = true) by decide)] at H; exact H
          clear H
          have H := H1
          clear H1
          replace H := Option.bind_eq_some_iff.mp H
          obtain ⟨t661, A130, H⟩ := H
          replace H : (if t661 = true then (scarfjointlaw03_DifferenceHolds.j0 k l1 true a0_0 a0_1 a0_2 a0_3 a0_4) else ((slices_ContainsFunc_int_int.f k l1 0).bind fun t662 => (scarfjointlaw03_DifferenceHolds.j0 k l1 t662 a0_0 a0_1 a0_2 a0_3 a0_4))) = some r := H
          have A13 := Aside0.mk A130
          clear A130
          by_cases c14 : t661 = true
          · subst c14
            have H1 : (scarfjointlaw03_DifferenceHolds.j0 k l1 true a0_0 a0_1 a0_2 a0_3 a0_4) = some r := by rw [if_pos rfl] at H; exact H
            clear H
            have H := H1
            clear H1
            have H' := Aside0.mk H
            clear H
            go_wp2_with (first | ((with_reducible refine gate_callee (f := 12) rfl ?_); refine goesL_ (some 6) rfl rfl Try.func12 (by kernel_rfl) rfl #[] rfl (by (try simp only [List.map_toArray, List.map_cons, List.map_nil]); first | done | rfl | (simp only [List.length_drop, List.length_take]; rfl)) ?_; (with_reducible refine (scarfjointlaw03_awake.calls k  true _ A5.out).mono ?_); rintro e w15 ⟨rfl, hb⟩; refine ⟨_, rfl, ?_⟩; have n0_ := Aside0.mk (blk_below (g := gb658) (o := .cells #[.int .i64 a0_0, .int .i64 a0_1, .int .i64 a0_2, .int .i64 a0_3, .int .i64 a0_4] 26 (0, 0)) (by (with_reducible repeat (first | refine blk_drewN ?_ _ | refine blk_drew ?_ | refine blk_alloc ?_ _)); exact BK658.out) hb); have n1_ := Aside0.mk (below_step (by repeat (first | (with_reducible first | exact HB.out | apply below_alloc | apply pw_below_drewN | apply below_drew1 | refine below_set ?_ GE658.out) | exact HB.out)) hb); clear BK658; clear HB; have BK658 := n0_; have HB := n1_; clear n0_ n1_; (try clear hb); (try clear hb2); (try clear hk); (try clear hi); have hcz16_0 : w15.cell? ⟨gb658, 0, none⟩ = some (.int .i64 a0_0) := (blk_cell BK658.out 0).trans rfl; have hcz16_1 : w15.cell? ⟨gb658, 1, none⟩ = some (.int .i64 a0_1) := (blk_cell BK658.out 1).trans rfl; have hcz16_2 : w15.cell? ⟨gb658, 2, none⟩ = some (.int .i64 a0_2) := (blk_cell BK658.out 2).trans rfl; have hcz16_3 : w15.cell? ⟨gb658, 3, none⟩ = some (.int .i64 a0_3) := (blk_cell BK658.out 3).trans rfl; have hcz16_4 : w15.cell? ⟨gb658, 4, none⟩ = some (.int .i64 a0_4) := (blk_cell BK658.out 4).trans rfl; have hfz16_0 := blk_frozen BK658.out 0; have hfz16_1 := blk_frozen BK658.out 1; have hfz16_2 := blk_frozen BK658.out 2; have hfz16_3 := blk_frozen BK658.out 3; have hfz16_4 := blk_frozen BK658.out 4) | (go_at_call 35; (with_reducible refine (scarfjointlaw03_DifferenceHolds_1.calls a0_2 false _ A9.out).mono ?_); rintro e w' ⟨rfl, ⟨nd, rfl⟩⟩) | (go_at_call 35; (with_reducible refine (scarfjointlaw03_DifferenceHolds_1.calls a0_4 true _ A13.out).mono ?_); rintro e w' ⟨rfl, ⟨nd, rfl⟩⟩))
            go_meet
            case rel => exact ⟨_, (true), (by first | rfl | (simp; done) | (simp [*]; done)), H', ⟨by first | omega | exact Nat.le_refl _⟩, ⟨by (with_reducible repeat (first | refine blk_drewN ?_ _ | refine blk_drew ?_ | refine blk_alloc ?_ _)); exact BK658.out⟩, ⟨by repeat (first | (with_reducible first | exact HB.out | apply below_alloc | apply pw_below_drewN | apply below_drew1 | refine below_set ?_ GE658.out) | exact HB.out)⟩⟩
          · replace c14 := Bool.eq_false_iff.mpr c14
            subst c14
            have H1 : ((slices_ContainsFunc_int_int.f k l1 0).bind fun t662 => (scarfjointlaw03_DifferenceHolds.j0 k l1 t662 a0_0 a0_1 a0_2 a0_3 a0_4)) = some r := by rw [if_neg (show ¬ (false = true) by decide)] at H; exact H
            clear H
            have H := H1
            clear H1
            replace H := Option.bind_eq_some_iff.mp H
            obtain ⟨t662, A170, H⟩ := H
            replace H : (scarfjointlaw03_DifferenceHolds.j0 k l1 t662 a0_0 a0_1 a0_2 a0_3 a0_4) = some r := H
            have A17 := Aside0.mk A170
            clear A170
            have H' := Aside0.mk H
            clear H
            go_wp2_with (first | ((with_reducible refine gate_callee (f := 12) rfl ?_); refine goesL_ (some 6) rfl rfl Try.func12 (by kernel_rfl) rfl #[] rfl (by (try simp only [List.map_toArray, List.map_cons, List.map_nil]); first | done | rfl | (simp only [List.length_drop, List.length_take]; rfl)) ?_; (with_reducible refine (scarfjointlaw03_awake.calls k  true _ A5.out).mono ?_); rintro e w18 ⟨rfl, hb⟩; refine ⟨_, rfl, ?_⟩; have n0_ := Aside0.mk (blk_below (g := gb658) (o := .cells #[.int .i64 a0_0, .int .i64 a0_1, .int .i64 a0_2, .int .i64 a0_3, .int .i64 a0_4] 26 (0, 0)) (by (with_reducible repeat (first | refine blk_drewN ?_ _ | refine blk_drew ?_ | refine blk_alloc ?_ _)); exact BK658.out) hb); have n1_ := Aside0.mk (below_step (by repeat (first | (with_reducible first | exact HB.out | apply below_alloc | apply pw_below_drewN | apply below_drew1 | refine below_set ?_ GE658.out) | exact HB.out)) hb); clear BK658; clear HB; have BK658 := n0_; have HB := n1_; clear n0_ n1_; (try clear hb); (try clear hb2); (try clear hk); (try clear hi); have hcz19_0 : w18.cell? ⟨gb658, 0, none⟩ = some (.int .i64 a0_0) := (blk_cell BK658.out 0).trans rfl; have hcz19_1 : w18.cell? ⟨gb658, 1, none⟩ = some (.int .i64 a0_1) := (blk_cell BK658.out 1).trans rfl; have hcz19_2 : w18.cell? ⟨gb658, 2, none⟩ = some (.int .i64 a0_2) := (blk_cell BK658.out 2).trans rfl; have hcz19_3 : w18.cell? ⟨gb658, 3, none⟩ = some (.int .i64 a0_3) := (blk_cell BK658.out 3).trans rfl; have hcz19_4 : w18.cell? ⟨gb658, 4, none⟩ = some (.int .i64 a0_4) := (blk_cell BK658.out 4).trans rfl; have hfz19_0 := blk_frozen BK658.out 0; have hfz19_1 := blk_frozen BK658.out 1; have hfz19_2 := blk_frozen BK658.out 2; have hfz19_3 := blk_frozen BK658.out 3; have hfz19_4 := blk_frozen BK658.out 4) | (go_at_call 35; (with_reducible refine (scarfjointlaw03_DifferenceHolds_1.calls a0_2 false _ A9.out).mono ?_); rintro e w' ⟨rfl, ⟨nd, rfl⟩⟩) | (go_at_call 35; (with_reducible refine (scarfjointlaw03_DifferenceHolds_1.calls a0_4 false _ A13.out).mono ?_); rintro e w' ⟨rfl, ⟨nd, rfl⟩⟩) | (go_at_call 36; (with_reducible refine (slices_ContainsFunc_int_int.calls k _ _ l1 0 t662 _ ?side1 ?side2 A17.out).mono ?_); (case side1 => repeat (first | exact (Kd.C_below HR1.out (by repeat (first | (with_reducible first | exact HB.out | apply below_alloc | apply pw_below_drewN | apply below_drew1 | refine below_set ?_ GE658.out) | exact HB.out))) | (with_reducible refine Kd.C_alloc ?_ _) | (with_reducible refine Kd.C_drewN ?_ _) | (with_reducible refine Kd.C_drew ?_))); (case side2 => exact HC1.out); rintro e w' ⟨rfl, ⟨nd, rfl⟩⟩))
            go_meet
            case rel => exact ⟨_, (t662), (by first | rfl | (simp; done) | (simp [*]; done)), H', ⟨by first | omega | exact Nat.le_refl _⟩, ⟨by (with_reducible repeat (first | refine blk_drewN ?_ _ | refine blk_drew ?_ | refine blk_alloc ?_ _)); exact BK658.out⟩, ⟨by repeat (first | (with_reducible first | exact HB.out | apply below_alloc | apply pw_below_drewN | apply below_drew1 | refine below_set ?_ GE658.out) | exact HB.out)⟩⟩
    · replace c6 := Bool.eq_false_iff.mpr c6
      subst c6
      have H1 : (scarfjointlaw03_DifferenceHolds.j0 k l1 true a0_0 a0_1 a0_2 a0_3 a0_4) = some r := by rw [if_neg (show ¬ (false = true) by decide)] at H; exact H
      clear H
      have H := H1
      clear H1
      have H' := Aside0.mk H
      clear H
      go_wp2_with (first | ((with_reducible refine gate_callee (f := 12) rfl ?_); refine goesL_ (some 6) rfl rfl Try.func12 (by kernel_rfl) rfl #[] rfl (by (try simp only [List.map_toArray, List.map_cons, List.map_nil]); first | done | rfl | (simp only [List.length_drop, List.length_take]; rfl)) ?_; (with_reducible refine (scarfjointlaw03_awake.calls k  false _ A5.out).mono ?_); rintro e w20 ⟨rfl, hb⟩; refine ⟨_, rfl, ?_⟩; have n0_ := Aside0.mk (blk_below (g := gb658) (o := .cells #[.int .i64 a0_0, .int .i64 a0_1, .int .i64 a0_2, .int .i64 a0_3, .int .i64 a0_4] 26 (0, 0)) (by (with_reducible repeat (first | refine blk_drewN ?_ _ | refine blk_drew ?_ | refine blk_alloc ?_ _)); exact BK658.out) hb); have n1_ := Aside0.mk (below_step (by repeat (first | (with_reducible first | exact HB.out | apply below_alloc | apply pw_below_drewN | apply below_drew1 | refine below_set ?_ GE658.out) | exact HB.out)) hb); clear BK658; clear HB; have BK658 := n0_; have HB := n1_; clear n0_ n1_; (try clear hb); (try clear hb2); (try clear hk); (try clear hi)))
      go_meet
      case rel => exact ⟨_, (true), (by first | rfl | (simp; done) | (simp [*]; done)), H', ⟨by first | omega | exact Nat.le_refl _⟩, ⟨by (with_reducible repeat (first | refine blk_drewN ?_ _ | refine blk_drew ?_ | refine blk_alloc ?_ _)); exact BK658.out⟩, ⟨by repeat (first | (with_reducible first | exact HB.out | apply below_alloc | apply pw_below_drewN | apply below_drew1 | refine below_set ?_ GE658.out) | exact HB.out)⟩⟩
  case rest =>
    clear HC3
    try clear c1
    try clear p2
    try clear c6
    try clear c7
    try clear c7b0
    try clear c7b1
    try clear c10
    try clear c11
    try clear c12
    try clear c14
    try clear hcz12_0
    try clear hcz12_1
    try clear hcz12_2
    try clear hcz12_3
    try clear hcz12_4
    try clear hcz16_0
    try clear hcz16_1
    try clear hcz16_2
    try clear hcz16_3
    try clear hcz16_4
    try clear hcz19_0
    try clear hcz19_1
    try clear hcz19_2
    try clear hcz19_3
    try clear hcz19_4
    try clear hfz12_0
    try clear hfz12_1
    try clear hfz12_2
    try clear hfz12_3
    try clear hfz12_4
    try clear hfz16_0
    try clear hfz16_1
    try clear hfz16_2
    try clear hfz16_3
    try clear hfz16_4
    try clear hfz19_0
    try clear hfz19_1
    try clear hfz19_2
    try clear hfz19_3
    try clear hfz19_4
    obtain ⟨kq, x31_2, rfl, HA, HJ2, BK658, HB⟩ := hcut
    cases kq with
    | zero => exact absurd HA.out (by simp [scarfjointlaw03_DifferenceHolds.j0])
    | succ kj2 =>
      have H := HA.out
      clear HA
      simp only [scarfjointlaw03_DifferenceHolds.j0] at H
      by_cases c21 : x31_2 = true
      · subst c21
        have H1 : ((scarfjointlaw03_awake.f kj2).bind fun t663 => (some t663)) = some r := by rw [if_pos rfl] at H; exact H
        clear H
        have H := H1
        clear H1
        replace H := Option.bind_eq_some_iff.mp H
        obtain ⟨t663, A220, H⟩ := H
        replace H : (some t663) = some r := H
        have A22 := Aside0.mk A220
        clear A220
        obtain rfl := Option.some.inj H
        go_wp2_with (first | ((with_reducible refine gate_callee (f := 12) rfl ?_); refine goesL_ (some 32) rfl rfl Try.func12 (by kernel_rfl) rfl #[] rfl (by (try simp only [List.map_toArray, List.map_cons, List.map_nil]); first | done | rfl | (simp only [List.length_drop, List.length_take]; rfl)) ?_; (with_reducible refine (scarfjointlaw03_awake.calls kj2  t663 _ A22.out).mono ?_); rintro e w23 ⟨rfl, hb⟩; refine ⟨_, rfl, ?_⟩; have n0_ := Aside0.mk (blk_below (g := gb658) (o := .cells #[.int .i64 a0_0, .int .i64 a0_1, .int .i64 a0_2, .int .i64 a0_3, .int .i64 a0_4] 26 (0, 0)) (by (with_reducible repeat (first | refine blk_drewN ?_ _ | refine blk_drew ?_ | refine blk_alloc ?_ _)); exact BK658.out) hb); have n1_ := Aside0.mk (below_step (by repeat (first | (with_reducible first | exact HB.out | apply below_alloc | apply pw_below_drewN | apply below_drew1 | refine below_set ?_ GE658.out) | exact HB.out)) hb); clear BK658; clear HB; have BK658 := n0_; have HB := n1_; clear n0_ n1_; (try clear hb); (try clear hb2); (try clear hk); (try clear hi)))
        go_ret
        exact ⟨by first | rfl | (simp [errW_none, errW_some] <;> rfl) | (simp [*, errW_none, errW_some] <;> rfl), by repeat (first | (with_reducible first | exact HB.out | apply below_alloc | apply pw_below_drewN | apply below_drew1 | refine below_set ?_ GE658.out) | exact HB.out)⟩
      · replace c21 := Bool.eq_false_iff.mpr c21
        subst c21
        have H1 : ((slices_Clone_int_int.f l1).bind fun t664 => ((difference_Holds.f kj2 a0_0 a0_1 a0_2 a0_3 a0_4 t664).bind fun t667 => ((scarfjointref03_Holds.f a0_0 a0_1 a0_2 a0_3 a0_4 l1).bind fun t668 => (some (t667 == t668))))) = some r := by rw [if_neg (show ¬ (false = true) by decide)] at H; exact H
        clear H
        have H := H1
        clear H1
        replace H := Option.bind_eq_some_iff.mp H
        obtain ⟨t664, A240, H⟩ := H
        replace H : ((difference_Holds.f kj2 a0_0 a0_1 a0_2 a0_3 a0_4 t664).bind fun t667 => ((scarfjointref03_Holds.f a0_0 a0_1 a0_2 a0_3 a0_4 l1).bind fun t668 => (some (t667 == t668)))) = some r := H
        have A24 := Aside0.mk A240
        clear A240
        replace H := Option.bind_eq_some_iff.mp H
        obtain ⟨t667, A250, H⟩ := H
        replace H : ((scarfjointref03_Holds.f a0_0 a0_1 a0_2 a0_3 a0_4 l1).bind fun t668 => (some (t667 == t668))) = some r := H
        have A25 := Aside0.mk A250
        clear A250
        replace H := Option.bind_eq_some_iff.mp H
        obtain ⟨t668, A260, H⟩ := H
        replace H : (some (t667 == t668)) = some r := H
        have A26 := Aside0.mk A260
        clear A260
        obtain rfl := Option.some.inj H
        try go_wp2
        have n0_ := Aside0.mk (blk_drew BK658.out)
        have n1_ := Aside0.mk (below_drew1 HB.out)
        clear BK658
        clear HB
        have BK658 := n0_
        have HB := n1_
        clear n0_ n1_
        refine start_ (n := 9) (S := fun w' => w'.cell? ⟨gb658, 0, none⟩ = some (.int .i64 a0_0) ∧ w'.cell? ⟨gb658, 1, none⟩ = some (.int .i64 a0_1) ∧ w'.cell? ⟨gb658, 2, none⟩ = some (.int .i64 a0_2) ∧ w'.cell? ⟨gb658, 3, none⟩ = some (.int .i64 a0_3) ∧ w'.cell? ⟨gb658, 4, none⟩ = some (.int .i64 a0_4)) (ds := []) #[false, false, false, false, false, false, false, false, false] (by kernel_rfl) rfl rfl ⟨(blk_cell BK658.out 0).trans rfl, (blk_cell BK658.out 1).trans rfl, (blk_cell BK658.out 2).trans rfl, (blk_cell BK658.out 3).trans rfl, (blk_cell BK658.out 4).trans rfl⟩ (fun hHeld => ?_); refine with_tabW scarfjointlaw03_DifferenceHolds.tab4 scarfjointlaw03_DifferenceHolds.bits4 (fun HT_ HW_ => ?_)
        generalize wc.drew = w27 at BK658 HB hHeld ⊢
        refine pure_ (i := 1) (N := some 34) (v := ?_) (a' := ?_) #[false, true, false, false, false, false, false, false, false] rfl rfl (any_of HT_.out (by kernel_rfl)) (fun _ _ _ h => h) (Or.inl ⟨by rfl, ?_⟩) ?_ ?_
        rotate_left
        · intro w'
          go_simp
          with_reducible rfl
        rotate_left
        · simp only [Act.put, List.setIfInBounds_toArray, List.set_cons_zero, List.set_cons_succ, i64_w, i32_w]
          rfl
        refine pure_ (i := 5) (N := some 38) (v := ?_) (a' := ?_) #[false, true, false, false, false, true, false, false, false] rfl rfl (any_of HT_.out (by kernel_rfl)) (fun _ _ _ h => h) (Or.inl ⟨by rfl, ?_⟩) ?_ ?_
        rotate_left
        · intro w'
          go_simp
          with_reducible rfl
        rotate_left
        · simp only [Act.put, List.setIfInBounds_toArray, List.set_cons_zero, List.set_cons_succ, i64_w, i32_w]
          rfl
        refine take_ (i := 0) (N := some 33) (v := ?_) (a' := ?_) #[true, true, false, false, false, true, false, false, false] rfl rfl (take_ofW HT_.out HW_.out (by kernel_rfl)) (fun _ _ _ h => h) (Or.inl ⟨by rfl, ?_⟩) hHeld ?_ ?_
        rotate_left
        · rintro w' ⟨s0, s1, s2, s3, s4⟩
          go_simp
          with_reducible rfl
        rotate_left
        · simp only [Act.put, List.setIfInBounds_toArray, List.set_cons_zero, List.set_cons_succ, i64_w, i32_w]
          rfl
        refine take_ (i := 4) (N := some 37) (v := ?_) (a' := ?_) #[true, true, false, false, true, true, false, false, false] rfl rfl (take_ofW HT_.out HW_.out (by kernel_rfl)) (fun _ _ _ h => h) (Or.inl ⟨by rfl, ?_⟩) hHeld ?_ ?_
        rotate_left
        · rintro w' ⟨s0, s1, s2, s3, s4⟩
          go_simp
          with_reducible rfl
        rotate_left
        · simp only [Act.put, List.setIfInBounds_toArray, List.set_cons_zero, List.set_cons_succ, i64_w, i32_w]
          rfl
        refine one_ (i := 2) (N := some 35) #[true, true, true, false, true, true, false, false, false] rfl rfl (one_of HT_.out (by kernel_rfl)) (by decide) (fun K hK => ?_)
        refine goes_ Try.func37 (by kernel_rfl) rfl #[.slice A1 l1.length c1] (by rfl) rfl rfl (by (try simp only [List.map_toArray, List.map_cons, List.map_nil]); first | done | rfl | (simp only [List.length_drop, List.length_take]; rfl)) ?_
        with_reducible refine (slices_Clone_int_int.calls _ _ l1 t664 _ ?side1 ?side2 A24.out).mono ?_
        (case side1 => repeat (first | exact (Kd.C_below HR1.out HB.out) | (with_reducible refine Kd.C_alloc ?_ _) | (with_reducible refine Kd.C_drewN ?_ _) | (with_reducible refine Kd.C_drew ?_)))
        (case side2 => exact HC1.out)
        rintro e w28 ⟨v665, rfl, ho0, hb⟩
        refine ⟨_, rfl, ?_⟩
        have n0_ := Aside0.mk (Kd.R_lower ho0 (below_size (by repeat (first | (with_reducible first | exact HB.out | apply below_alloc | apply pw_below_drewN | apply below_drew1 | refine below_set ?_ GE658.out) | exact HB.out))))
        have n1_ := Aside0.mk (blk_below (g := gb658) (o := .cells #[.int .i64 a0_0, .int .i64 a0_1, .int .i64 a0_2, .int .i64 a0_3, .int .i64 a0_4] 26 (0, 0)) (by (with_reducible repeat (first | refine blk_drewN ?_ _ | refine blk_drew ?_ | refine blk_alloc ?_ _)); exact BK658.out) hb)
        have n2_ := Aside0.mk (below_step (by repeat (first | (with_reducible first | exact HB.out | apply below_alloc | apply pw_below_drewN | apply below_drew1 | refine below_set ?_ GE658.out) | exact HB.out)) hb)
        clear BK658
        clear HB
        have HO666 := n0_
        have BK658 := n1_
        have HB := n2_
        clear n0_ n1_ n2_
        (try clear hb)
        (try clear hb2)
        (try clear hk)
        (try clear hi)
        (try clear ho0)
        obtain ⟨Ao29, co29, eo29⟩ := Kd.R_slice HO666.out
        (first | subst eo29 | (injection eo29 with f1_ f2_ f3_; have f4_ := f1_.symm; have f5_ := f3_.symm; clear f1_ f2_ f3_; subst f4_; subst f5_))
        refine hK.out _ _ ⟨(blk_cell BK658.out 0).trans rfl, (blk_cell BK658.out 1).trans rfl, (blk_cell BK658.out 2).trans rfl, (blk_cell BK658.out 3).trans rfl, (blk_cell BK658.out 4).trans rfl⟩ (fun hHeld => ?_)
        clear hK K
        refine norm_ (a' := ?_) ?_ ?_
        rotate_left
        · show Act.put _ (some 35) _ = _
          simp only [Act.put, List.setIfInBounds_toArray, List.set_cons_zero, List.set_cons_succ, i64_w, i32_w]
          rfl
        refine one_ (i := 3) (N := some 36) #[true, true, true, true, true, true, false, false, false] rfl rfl (one_of HT_.out (by kernel_rfl)) (by decide) (fun K hK => ?_)
        refine goes_ Try.func28 (by kernel_rfl) rfl #[.agg #[.int .i64 a0_0, .int .i64 a0_1, .int .i64 a0_2, .int .i64 a0_3, .int .i64 a0_4], .slice Ao29 t664.length co29] (by rfl) rfl rfl (by (try simp only [List.map_toArray, List.map_cons, List.map_nil]); first | done | rfl | (simp only [List.length_drop, List.length_take]; rfl)) ?_
        with_reducible refine (difference_Holds.calls kj2 a0_0 a0_1 a0_2 a0_3 a0_4 _ _ t664 t667 _ ?side1 ?side2 A25.out).mono ?_
        (case side1 => repeat (first | exact (Kd.R_reads' HO666.out).2.2 | (with_reducible refine Kd.C_alloc ?_ _) | (with_reducible refine Kd.C_drewN ?_ _) | (with_reducible refine Kd.C_drew ?_)))
        (case side2 => exact (Kd.R_reads' HO666.out).2.1)
        rintro e w30 ⟨rfl, hb⟩
        refine ⟨_, rfl, ?_⟩
        have n0_ := Aside0.mk (Kd.R_below (by (with_reducible repeat (first | apply Kd.R_alloc | apply Kd.R_drewN | apply Kd.R_drew)); exact HO666.out) hb)
        have n1_ := Aside0.mk (blk_below (g := gb658) (o := .cells #[.int .i64 a0_0, .int .i64 a0_1, .int .i64 a0_2, .int .i64 a0_3, .int .i64 a0_4] 26 (0, 0)) (by (with_reducible repeat (first | refine blk_drewN ?_ _ | refine blk_drew ?_ | refine blk_alloc ?_ _)); exact BK658.out) hb)
        have n2_ := Aside0.mk (below_step (by repeat (first | (with_reducible first | exact HB.out | apply below_alloc | apply pw_below_drewN | apply below_drew1 | refine below_set ?_ GE658.out) | exact HB.out)) hb)
        clear HO666
        clear BK658
        clear HB
        have HO666 := n0_
        have BK658 := n1_
        have HB := n2_
        clear n0_ n1_ n2_
        (try clear hb)
        (try clear hb2)
        (try clear hk)
        (try clear hi)
        refine hK.out _ _ ⟨(blk_cell BK658.out 0).trans rfl, (blk_cell BK658.out 1).trans rfl, (blk_cell BK658.out 2).trans rfl, (blk_cell BK658.out 3).trans rfl, (blk_cell BK658.out 4).trans rfl⟩ (fun hHeld => ?_)
        clear hK K
        refine norm_ (a' := ?_) ?_ ?_
        rotate_left
        · show Act.put _ (some 36) _ = _
          simp only [Act.put, List.setIfInBounds_toArray, List.set_cons_zero, List.set_cons_succ, i64_w, i32_w]
          rfl
        refine one_ (i := 6) (N := some 39) #[true, true, true, true, true, true, true, false, false] rfl rfl (one_of HT_.out (by kernel_rfl)) (by decide) (fun K hK => ?_)
        refine goes_ Try.func38 (by kernel_rfl) rfl #[.agg #[.int .i64 a0_0, .int .i64 a0_1, .int .i64 a0_2, .int .i64 a0_3, .int .i64 a0_4], .slice A1 l1.length c1] (by rfl) rfl rfl (by (try simp only [List.map_toArray, List.map_cons, List.map_nil]); first | done | rfl | (simp only [List.length_drop, List.length_take]; rfl)) ?_
        with_reducible refine (scarfjointref03_Holds.calls a0_0 a0_1 a0_2 a0_3 a0_4 _ _ l1 t668 _ ?side1 ?side2 A26.out).mono ?_
        (case side1 => repeat (first | exact (Kd.C_below HR1.out HB.out) | (with_reducible refine Kd.C_alloc ?_ _) | (with_reducible refine Kd.C_drewN ?_ _) | (with_reducible refine Kd.C_drew ?_)))
        (case side2 => exact HC1.out)
        rintro e w31 ⟨rfl, hb⟩
        refine ⟨_, rfl, ?_⟩
        have n0_ := Aside0.mk (Kd.R_below (by (with_reducible repeat (first | apply Kd.R_alloc | apply Kd.R_drewN | apply Kd.R_drew)); exact HO666.out) hb)
        have n1_ := Aside0.mk (blk_below (g := gb658) (o := .cells #[.int .i64 a0_0, .int .i64 a0_1, .int .i64 a0_2, .int .i64 a0_3, .int .i64 a0_4] 26 (0, 0)) (by (with_reducible repeat (first | refine blk_drewN ?_ _ | refine blk_drew ?_ | refine blk_alloc ?_ _)); exact BK658.out) hb)
        have n2_ := Aside0.mk (below_step (by repeat (first | (with_reducible first | exact HB.out | apply below_alloc | apply pw_below_drewN | apply below_drew1 | refine below_set ?_ GE658.out) | exact HB.out)) hb)
        clear HO666
        clear BK658
        clear HB
        have HO666 := n0_
        have BK658 := n1_
        have HB := n2_
        clear n0_ n1_ n2_
        (try clear hb)
        (try clear hb2)
        (try clear hk)
        (try clear hi)
        refine hK.out _ _ ⟨(blk_cell BK658.out 0).trans rfl, (blk_cell BK658.out 1).trans rfl, (blk_cell BK658.out 2).trans rfl, (blk_cell BK658.out 3).trans rfl, (blk_cell BK658.out 4).trans rfl⟩ (fun hHeld => ?_)
        clear hK K
        refine norm_ (a' := ?_) ?_ ?_
        rotate_left
        · show Act.put _ (some 39) _ = _
          simp only [Act.put, List.setIfInBounds_toArray, List.set_cons_zero, List.set_cons_succ, i64_w, i32_w]
          rfl
        refine pure_ (i := 7) (N := some 40) (v := ?_) (a' := ?_) #[true, true, true, true, true, true, true, true, false] rfl rfl (any_of HT_.out (by kernel_rfl)) (fun _ _ _ h => h) (Or.inl ⟨by rfl, ?_⟩) ?_ ?_
        rotate_left
        · intro w'
          go_simp
          with_reducible rfl
        rotate_left
        · simp only [Act.put, List.setIfInBounds_toArray, List.set_cons_zero, List.set_cons_succ, i64_w, i32_w]
          rfl
        refine pure_ (i := 8) (N := some 4) (v := ?_) (a' := ?_) #[true, true, true, true, true, true, true, true, true] rfl rfl (any_of HT_.out (by kernel_rfl)) (fun _ _ _ h => h) (Or.inl ⟨by rfl, ?_⟩) ?_ ?_
        rotate_left
        · intro w'
          go_simp
          with_reducible rfl
        rotate_left
        · simp only [Act.put, List.setIfInBounds_toArray, List.set_cons_zero, List.set_cons_succ, i64_w, i32_w]
          rfl
        refine done_ (done_of HT_.out (by kernel_rfl)) ?_
        try go_wp2
        go_ret
        exact ⟨by first | rfl | (simp [errW_none, errW_some] <;> rfl) | (simp [*, errW_none, errW_some] <;> rfl), by repeat (first | (with_reducible first | exact HB.out | apply below_alloc | apply pw_below_drewN | apply below_drew1 | refine below_set ?_ GE658.out) | exact HB.out)⟩

end Go.Proofs.Yteebkkdbkkibmaa.Pr
