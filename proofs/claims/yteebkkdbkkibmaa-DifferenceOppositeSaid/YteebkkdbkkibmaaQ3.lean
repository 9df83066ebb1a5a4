/- Functions of this claim and what their calls compute, written by wip/tools/mp.py, a variant of the kit printer. Conditions: each theorem has its own. -/
import Derived.Test.YteebkkdbkkibmaaPr0
import Derived.Test.YteebkkdbkkibmaaPr13
import Derived.Test.YteebkkdbkkibmaaPr7
import Derived.Test.YteebkkdbkkibmaaPr8
import Derived.Test.YteebkkdbkkibmaaPr12
import Derived.Test.YteebkkdbkkibmaaQ1
namespace Go.Proofs.Yteebkkdbkkibmaa.Pr
open Go.RowKit Go.Proofs.YteebkkdbkkibmaaW.PrintWords Go.Proofs.YteebkkdbkkibmaaW.PrintLast Go.Proofs.YteebkkdbkkibmaaW.PrintMore
attribute [local go_sem] max2_int min2_int max_two min_two max_three min_three max_four min_four   -- for this text's walks alone
set_option linter.unusedVariables false
set_option linter.unusedSimpArgs false

/-! ### scarfjointlaw03_DifferenceOpposite: function 5 -/
def scarfjointlaw03_DifferenceOpposite.j0 : Nat → Int → List (S44) → Bool → Int → Int → Int → Int → Option (Bool)
  | 0, _, _, _, _, _, _, _ => none
  | k + 1, x0, x1, x21, x384000, x384001, x384002, x384003 => if x21 = true then ((scarfjointlaw03_awake.f k).bind fun t385 => (some t385)) else ((scarfjointlaw03_few.f k x0 x1).bind fun bt386 => ((scarfjointref03_Made.f bt386.1 x384000 x384001 x384002 x384003).bind fun bt390 => ((api_Test_14.f bt386.2).bind fun t396 => ((some (([(⟨1, (⟨bt390.2.2.2.1, wrap64 (bt390.2.2.2.2 + 1)⟩ : S24), (⟨bt390.2.1, bt390.2.2.1⟩ : S24)⟩ : S26)] : List (S26)) : List (S26))).bind fun y399 => (if t396.length + y399.length < 3518437208883 then ((difference_Implies.f k bt386.1 bt386.2 1 bt390.2.1 bt390.2.2.1 bt390.2.2.2.1 bt390.2.2.2.2).bind fun bt405 => ((difference_Solve.f k bt386.1 (t396 ++ y399)).bind fun bt407 => (if bt405.2 = 0 then (some (bt405.1 == (bt407.2 == 10))) else (some false)))) else (none))))))
def scarfjointlaw03_DifferenceOpposite.f (k : Nat) (a0 : Int) (l1 : List (S44)) (a2_0 : Int) (a2_1 : Int) (a2_2 : Int) (a2_3 : Int) : Option (Bool) := (scarfjointlaw03_awake.f k).bind fun t384 => (if t384 = true then (scarfjointlaw03_DifferenceOpposite.j0 k a0 l1 (decide ((l1.length : Int) > 20)) a2_0 a2_1 a2_2 a2_3) else (scarfjointlaw03_DifferenceOpposite.j0 k a0 l1 true a2_0 a2_1 a2_2 a2_3))
theorem scarfjointlaw03_DifferenceOpposite.mono_l : ∀ k, (∀ y0 y1 y2 y3 y4 y5 y6, LeO (scarfjointlaw03_DifferenceOpposite.j0 k y0 y1 y2 y3 y4 y5 y6) (scarfjointlaw03_DifferenceOpposite.j0 (k + 1) y0 y1 y2 y3 y4 y5 y6))
  | 0 => fun _ _ _ _ _ _ _ r h => by simp [scarfjointlaw03_DifferenceOpposite.j0] at h
  | k + 1 => by
    have ih0 := scarfjointlaw03_DifferenceOpposite.mono_l k
    · intro y0 y1 y2 y3 y4 y5 y6
      unfold scarfjointlaw03_DifferenceOpposite.j0
      repeat' first
      | (with_reducible exact ih0 _ _ _ _ _ _ _)
      | (with_reducible exact difference_Implies.mono _ _ _ _ _ _ _ _)
      | (with_reducible exact difference_Solve.mono _ _ _)
      | (with_reducible exact scarfjointlaw03_awake.mono _)
      | (with_reducible exact scarfjointlaw03_few.mono _ _ _)
      | (with_reducible exact LeO.refl _)
      | (with_reducible exact LeO.none _)
      | (with_reducible refine LeO.ite ?_ ?_)
      | (with_reducible refine LeO.bind ?_ (fun _ => ?_))
      | exact ih0 _ _ _ _ _ _ _
      | exact difference_Implies.mono _ _ _ _ _ _ _ _
      | exact difference_Solve.mono _ _ _
      | exact scarfjointlaw03_awake.mono _
      | exact scarfjointlaw03_few.mono _ _ _
      | exact LeO.none _
      | refine LeO.ite ?_ ?_
      | refine LeO.bind ?_ (fun _ => ?_)
theorem scarfjointlaw03_DifferenceOpposite.mono : ∀ a0 a1 a2 a3 a4 a5 k, LeO (scarfjointlaw03_DifferenceOpposite.f k a0 a1 a2 a3 a4 a5) (scarfjointlaw03_DifferenceOpposite.f (k + 1) a0 a1 a2 a3 a4 a5) := by
  intro a0 a1 a2 a3 a4 a5 k
  have ih0 := scarfjointlaw03_DifferenceOpposite.mono_l k
  unfold scarfjointlaw03_DifferenceOpposite.f
  repeat' first
      | (with_reducible exact ih0 _ _ _ _ _ _ _)
      | (with_reducible exact difference_Implies.mono _ _ _ _ _ _ _ _)
      | (with_reducible exact difference_Solve.mono _ _ _)
      | (with_reducible exact scarfjointlaw03_awake.mono _)
      | (with_reducible exact scarfjointlaw03_few.mono _ _ _)
      | (with_reducible exact LeO.refl _)
      | (with_reducible exact LeO.none _)
      | (with_reducible refine LeO.ite ?_ ?_)
      | (with_reducible refine LeO.bind ?_ (fun _ => ?_))
      | exact ih0 _ _ _ _ _ _ _
      | exact difference_Implies.mono _ _ _ _ _ _ _ _
      | exact difference_Solve.mono _ _ _
      | exact scarfjointlaw03_awake.mono _
      | exact scarfjointlaw03_few.mono _ _ _
      | exact LeO.none _
      | refine LeO.ite ?_ ?_
      | refine LeO.bind ?_ (fun _ => ?_)
def scarfjointlaw03_DifferenceOpposite.T6 : Bool × List (List Nat × List Nat) := (true, [([], []), ([0], [0]), ([], []), ([2], [2]), ([3], [3]), ([], []), ([5], [5]), ([6], [6]), ([7], [7]), ([4, 8], [4, 8]), ([], []), ([10], [10]), ([9, 11], [9, 11]), ([12], [12]), ([1, 13, 1], [1, 13]), ([14, 14, 0, 1, 2, 3, 4, 5, 6, 7, 8, 9, 10, 11, 12, 13, 14], [14])])
def scarfjointlaw03_DifferenceOpposite.B6 : List Nat := [0, 1, 0, 4, 12, 0, 32, 96, 224, 508, 0, 1024, 4092, 8188, 16383, 32767]
theorem scarfjointlaw03_DifferenceOpposite.tab6 : rtab .any (opsOf Try.f5 6) = scarfjointlaw03_DifferenceOpposite.T6 := by kernel_rfl
theorem scarfjointlaw03_DifferenceOpposite.bits6 : waitsOk scarfjointlaw03_DifferenceOpposite.T6.2 scarfjointlaw03_DifferenceOpposite.B6 = true := by kernel_rfl
set_option maxHeartbeats 8000000 in
set_option maxRecDepth 100000 in
theorem scarfjointlaw03_DifferenceOpposite.calls (k : Nat) (a0 : Int) (A1 : Option Addr) (c1 : Nat) (l1 : List (S44)) (a2_0 : Int) (a2_1 : Int) (a2_2 : Int) (a2_3 : Int) (r : Bool) (w : World) (hr1 : Kd.C k44 w A1 l1.length l1) (hc1 : l1.length ≤ c1) (h : scarfjointlaw03_DifferenceOpposite.f k a0 l1 a2_0 a2_1 a2_2 a2_3 = some r) :
    Calls Try.prog 5 #[.int .u8 a0, .slice A1 l1.length c1, .agg #[.int .i8 a2_0, .int .i8 a2_1, .int .i8 a2_2, .int .i8 a2_3]] w fun e w' => e = .returned (.bool r) ∧ Below w.heap.size w w' := by
  have hu44 := Try.underlying44
  have hu26 := Try.underlying26
  have hu24 := Try.underlying24
  have HR1 := Aside0.mk hr1
  have HC1 := Aside0.mk hc1
  clear hr1 hc1
  have HB := Aside0.mk (Below.refl w.heap.size w)
  have H : ((scarfjointlaw03_awake.f k).bind fun t384 => (if t384 = true then (scarfjointlaw03_DifferenceOpposite.j0 k a0 l1 (decide ((l1.length : Int) > 20)) a2_0 a2_1 a2_2 a2_3) else (scarfjointlaw03_DifferenceOpposite.j0 k a0 l1 true a2_0 a2_1 a2_2 a2_3))) = some r := h
  clear h
  have HC4 := Aside0.mk H
  clear H
  go_enter Try.func5, Try.ntmps5
  go_upto_region 1 with (first | ((with_reducible refine gate_dst (N := 5) rfl ?_); (try (refine gate_guard (by rfl) ?_; dsimp only)); refine box_event ?hg (N := 5) ?hd (cs := #[.int .i8 a2_0, .int .i8 a2_1, .int .i8 a2_2, .int .i8 a2_3]) (t := 44) ?hr ?_; (case hd => rfl); (case hg => rfl); (case hr => first | (go_simp; done) | (go_simp; rfl)); intro gb383 hg w5 hbox hb; have n0_ := Aside0.mk (below_step (by repeat (first | (with_reducible first | exact HB.out | apply below_alloc | apply pw_below_drewN | apply below_drew1) | exact HB.out)) hb); have n1_ := Aside0.mk (hbox); have n2_ := Aside0.mk ((by rw [hg]; exact (below_size (by repeat (first | (with_reducible first | exact HB.out | apply below_alloc | apply pw_below_drewN | apply below_drew1) | exact HB.out))) : w.heap.size ≤ gb383)); have n3_ := Aside0.mk ((by rw [hg]; exact (below_size (by repeat (first | (with_reducible first | exact HB.out | apply below_alloc | apply pw_below_drewN | apply below_drew1) | exact HB.out))) : w.heap.size ≤ gb383)); clear HB; have HB := n0_; have BK383 := n1_; have GW383 := n2_; have GE383 := n3_; clear n0_ n1_ n2_ n3_; clear hb hbox hg))
  (try simp only [Act.put, List.setIfInBounds_toArray, List.set_cons_zero, List.set_cons_succ])
  go_cut [21] (fun v21 wc => ∃ (kq : Nat) (x21_3 : Bool), v21 = .bool x21_3 ∧ Aside0 (scarfjointlaw03_DifferenceOpposite.j0 kq a0 l1 x21_3 a2_0 a2_1 a2_2 a2_3 = some r) ∧ Aside0 (kq ≤ k) ∧ Aside0 (wc.heap[gb383]? = some (.cells #[.int .i8 a2_0, .int .i8 a2_1, .int .i8 a2_2, .int .i8 a2_3] 44 (0, 0))) ∧ Aside0 (Below w.heap.size w wc))
  case first =>
    have H := HC4.out
    clear HC4
    replace H := Option.bind_eq_some_iff.mp H
    obtain ⟨t384, A60, H⟩ := H
    replace H : (if t384 = true then (scarfjointlaw03_DifferenceOpposite.j0 k a0 l1 (decide ((l1.length : Int) > 20)) a2_0 a2_1 a2_2 a2_3) else (scarfjointlaw03_DifferenceOpposite.j0 k a0 l1 true a2_0 a2_1 a2_2 a2_3)) = some r := H
    have A6 := Aside0.mk A60
    clear A60
    by_cases c7 : t384 = true
    · subst c7
      have H1 : (scarfjointlaw03_DifferenceOpposite.j0 k a0 l1 (decide ((l1.length : Int) > 20)) a2_0 a2_1 a2_2 a2_3) = some r := by rw [if_pos rfl] at H; exact H
      clear H
      have H := H1
      clear H1
      have H' := Aside0.mk H
      clear H
      go_wp2_with (first | ((with_reducible refine gate_callee (f := 12) rfl ?_); refine goesL_ (some 15) rfl rfl Try.func12 (by kernel_rfl) rfl #[] rfl (by (try simp only [List.map_toArray, List.map_cons, List.map_nil]); first | done | rfl | (simp only [List.length_drop, List.length_take]; rfl)) ?_; (with_reducible refine (scarfjointlaw03_awake.calls k  true _ A6.out).mono ?_); rintro e w8 ⟨rfl, hb⟩; refine ⟨_, rfl, ?_⟩; have n0_ := Aside0.mk (blk_below (g := gb383) (o := .cells #[.int .i8 a2_0, .int .i8 a2_1, .int .i8 a2_2, .int .i8 a2_3] 44 (0, 0)) (by (with_reducible repeat (first | refine blk_drewN ?_ _ | refine blk_drew ?_ | refine blk_alloc ?_ _)); exact BK383.out) hb); have n1_ := Aside0.mk (below_step (by repeat (first | (with_reducible first | exact HB.out | apply below_alloc | apply pw_below_drewN | apply below_drew1 | refine below_set ?_ GE383.out) | exact HB.out)) hb); clear BK383; clear HB; have BK383 := n0_; have HB := n1_; clear n0_ n1_; (try clear hb); (try clear hb2); (try clear hk); (try clear hi)))
      go_meet
      case rel => exact ⟨_, (decide ((l1.length : Int) > 20)), (by first | rfl | (simp; done) | (simp [*]; done)), H', ⟨by first | omega | exact Nat.le_refl _⟩, ⟨by (with_reducible repeat (first | refine blk_drewN ?_ _ | refine blk_drew ?_ | refine blk_alloc ?_ _)); exact BK383.out⟩, ⟨by repeat (first | (with_reducible first | exact HB.out | apply below_alloc | apply pw_below_drewN | apply below_drew1 | refine below_set ?_ GE383.out) | exact HB.out)⟩⟩
    · replace c7 := Bool.eq_false_iff.mpr c7
      subst c7
      have H1 : (scarfjointlaw03_DifferenceOpposite.j0 k a0 l1 true a2_0 a2_1 a2_2 a2_3) = some r := by rw [if_neg (show ¬ (false = true) by decide)] at H; exact H
      clear H
      have H := H1
      clear H1
      have H' := Aside0.mk H
      clear H
      go_wp2_with (first | ((with_reducible refine gate_callee (f := 12) rfl ?_); refine goesL_ (some 15) rfl rfl Try.func12 (by kernel_rfl) rfl #[] rfl (by (try simp only [List.map_toArray, List.map_cons, List.map_nil]); first | done | rfl | (simp only [List.length_drop, List.length_take]; rfl)) ?_; (with_reducible refine (scarfjointlaw03_awake.calls k  false _ A6.out).mono ?_); rintro e w9 ⟨rfl, hb⟩; refine ⟨_, rfl, ?_⟩; have n0_ := Aside0.mk (blk_below (g := gb383) (o := .cells #[.int .i8 a2_0, .int .i8 a2_1, .int .i8 a2_2, .int .i8 a2_3] 44 (0, 0)) (by (with_reducible repeat (first | refine blk_drewN ?_ _ | refine blk_drew ?_ | refine blk_alloc ?_ _)); exact BK383.out) hb); have n1_ := Aside0.mk (below_step (by repeat (first | (with_reducible first | exact HB.out | apply below_alloc | apply pw_below_drewN | apply below_drew1 | refine below_set ?_ GE383.out) | exact HB.out)) hb); clear BK383; clear HB; have BK383 := n0_; have HB := n1_; clear n0_ n1_; (try clear hb); (try clear hb2); (try clear hk); (try clear hi)))
      go_meet
      case rel => exact ⟨_, (true), (by first | rfl | (simp; done) | (simp [*]; done)), H', ⟨by first | omega | exact Nat.le_refl _⟩, ⟨by (with_reducible repeat (first | refine blk_drewN ?_ _ | refine blk_drew ?_ | refine blk_alloc ?_ _)); exact BK383.out⟩, ⟨by repeat (first | (with_reducible first | exact HB.out | apply below_alloc | apply pw_below_drewN | apply below_drew1 | refine below_set ?_ GE383.out) | exact HB.out)⟩⟩
  case rest =>
    clear HC4
    try clear c1
    try clear p2
    try clear c5
    try clear c7
    obtain ⟨kq, x21_3, rfl, HA, HJ3, BK383, HB⟩ := hcut
    cases kq with
    | zero => exact absurd HA.out (by simp [scarfjointlaw03_DifferenceOpposite.j0])
    | succ kj3 =>
      have H := HA.out
      clear HA
      simp only [scarfjointlaw03_DifferenceOpposite.j0] at H
      by_cases c10 : x21_3 = true
      · subst c10
        have H1 : ((scarfjointlaw03_awake.f kj3).bind fun t385 => (some t385)) = some r := by rw [if_pos rfl] at H; exact H
        clear H
        have H := H1
        clear H1
        replace H := Option.bind_eq_some_iff.mp H
        obtain ⟨t385, A110, H⟩ := H
        replace H : (some t385) = some r := H
        have A11 := Aside0.mk A110
        clear A110
        obtain rfl := Option.some.inj H
        go_wp2_with (first | ((with_reducible refine gate_callee (f := 12) rfl ?_); refine goesL_ (some 22) rfl rfl Try.func12 (by kernel_rfl) rfl #[] rfl (by (try simp only [List.map_toArray, List.map_cons, List.map_nil]); first | done | rfl | (simp only [List.length_drop, List.length_take]; rfl)) ?_; (with_reducible refine (scarfjointlaw03_awake.calls kj3  t385 _ A11.out).mono ?_); rintro e w12 ⟨rfl, hb⟩; refine ⟨_, rfl, ?_⟩; have n0_ := Aside0.mk (blk_below (g := gb383) (o := .cells #[.int .i8 a2_0, .int .i8 a2_1, .int .i8 a2_2, .int .i8 a2_3] 44 (0, 0)) (by (with_reducible repeat (first | refine blk_drewN ?_ _ | refine blk_drew ?_ | refine blk_alloc ?_ _)); exact BK383.out) hb); have n1_ := Aside0.mk (below_step (by repeat (first | (with_reducible first | exact HB.out | apply below_alloc | apply pw_below_drewN | apply below_drew1 | refine below_set ?_ GE383.out) | exact HB.out)) hb); clear BK383; clear HB; have BK383 := n0_; have HB := n1_; clear n0_ n1_; (try clear hb); (try clear hb2); (try clear hk); (try clear hi)))
        go_ret
        exact ⟨by first | rfl | (simp [errW_none, errW_some] <;> rfl) | (simp [*, errW_none, errW_some] <;> rfl), by repeat (first | (with_reducible first | exact HB.out | apply below_alloc | apply pw_below_drewN | apply below_drew1 | refine below_set ?_ GE383.out) | exact HB.out)⟩
      · replace c10 := Bool.eq_false_iff.mpr c10
        subst c10
        have H1 : ((scarfjointlaw03_few.f kj3 a0 l1).bind fun bt386 => ((scarfjointref03_Made.f bt386.1 a2_0 a2_1 a2_2 a2_3).bind fun bt390 => ((api_Test_14.f bt386.2).bind fun t396 => ((some (([(⟨1, (⟨bt390.2.2.2.1, wrap64 (bt390.2.2.2.2 + 1)⟩ : S24), (⟨bt390.2.1, bt390.2.2.1⟩ : S24)⟩ : S26)] : List (S26)) : List (S26))).bind fun y399 => (if t396.length + y399.length < 3518437208883 then ((difference_Implies.f kj3 bt386.1 bt386.2 1 bt390.2.1 bt390.2.2.1 bt390.2.2.2.1 bt390.2.2.2.2).bind fun bt405 => ((difference_Solve.f kj3 bt386.1 (t396 ++ y399)).bind fun bt407 => (if bt405.2 = 0 then (some (bt405.1 == (bt407.2 == 10))) else (some false)))) else (none)))))) = some r := by rw [if_neg (show ¬ (false = true) by decide)] at H; exact H
        clear H
        have H := H1
        clear H1
        replace H := Option.bind_eq_some_iff.mp H
        obtain ⟨⟨t386, t387⟩, A130, H⟩ := H
        replace H : ((scarfjointref03_Made.f t386 a2_0 a2_1 a2_2 a2_3).bind fun bt390 => ((api_Test_14.f t387).bind fun t396 => ((some (([(⟨1, (⟨bt390.2.2.2.1, wrap64 (bt390.2.2.2.2 + 1)⟩ : S24), (⟨bt390.2.1, bt390.2.2.1⟩ : S24)⟩ : S26)] : List (S26)) : List (S26))).bind fun y399 => (if t396.length + y399.length < 3518437208883 then ((difference_Implies.f kj3 t386 t387 1 bt390.2.1 bt390.2.2.1 bt390.2.2.2.1 bt390.2.2.2.2).bind fun bt405 => ((difference_Solve.f kj3 t386 (t396 ++ y399)).bind fun bt407 => (if bt405.2 = 0 then (some (bt405.1 == (bt407.2 == 10))) else (some false)))) else (none))))) = some r := H
        have A13 := Aside0.mk A130
        clear A130
        replace H := Option.bind_eq_some_iff.mp H
        obtain ⟨⟨t390, t391, t392, t393, t394⟩, A140, H⟩ := H
        replace H : ((api_Test_14.f t387).bind fun t396 => ((some (([(⟨1, (⟨t393, wrap64 (t394 + 1)⟩ : S24), (⟨t391, t392⟩ : S24)⟩ : S26)] : List (S26)) : List (S26))).bind fun y399 => (if t396.length + y399.length < 3518437208883 then ((difference_Implies.f kj3 t386 t387 1 t391 t392 t393 t394).bind fun bt405 => ((difference_Solve.f kj3 t386 (t396 ++ y399)).bind fun bt407 => (if bt405.2 = 0 then (some (bt405.1 == (bt407.2 == 10))) else (some false)))) else (none)))) = some r := H
        have A14 := Aside0.mk A140
        clear A140
        replace H := Option.bind_eq_some_iff.mp H
        obtain ⟨t396, A150, H⟩ := H
        replace H : ((some (([(⟨1, (⟨t393, wrap64 (t394 + 1)⟩ : S24), (⟨t391, t392⟩ : S24)⟩ : S26)] : List (S26)) : List (S26))).bind fun y399 => (if t396.length + y399.length < 3518437208883 then ((difference_Implies.f kj3 t386 t387 1 t391 t392 t393 t394).bind fun bt405 => ((difference_Solve.f kj3 t386 (t396 ++ y399)).bind fun bt407 => (if bt405.2 = 0 then (some (bt405.1 == (bt407.2 == 10))) else (some false)))) else (none))) = some r := H
        have A15 := Aside0.mk A150
        clear A150
        obtain ⟨y399, hy399⟩ : ∃ y_ : List (S26), y_ = (([(⟨1, (⟨t393, wrap64 (t394 + 1)⟩ : S24), (⟨t391, t392⟩ : S24)⟩ : S26)] : List (S26))) := ⟨_, rfl⟩
        replace H : (if t396.length + y399.length < 3518437208883 then ((difference_Implies.f kj3 t386 t387 1 t391 t392 t393 t394).bind fun bt405 => ((difference_Solve.f kj3 t386 (t396 ++ y399)).bind fun bt407 => (if bt405.2 = 0 then (some (bt405.1 == (bt407.2 == 10))) else (some false)))) else (none)) = some r := by first | (rw [hy399]; with_reducible exact H) | (have H2_ := (Option.bind_some _ _).symm.trans H; rw [hy399]; with_reducible exact H2_) | (have H2_ := (Option.bind_some _ _).symm.trans H; with_reducible exact H2_) | with_reducible exact H | (rw [hy399]; exact H) | exact H
        have Ny399 := Aside0.mk hy399
        clear hy399
        by_cases c16 : t396.length + y399.length < 3518437208883
        · rw [if_pos c16] at H
          have LMc16 := Aside0.mk c16
          clear c16
          obtain ⟨y402, hy402⟩ : ∃ y_ : List (S26), y_ = (t396 ++ y399) := ⟨_, rfl⟩
          replace H : ((difference_Implies.f kj3 t386 t387 1 t391 t392 t393 t394).bind fun bt405 => ((difference_Solve.f kj3 t386 y402).bind fun bt407 => (if bt405.2 = 0 then (some (bt405.1 == (bt407.2 == 10))) else (some false)))) = some r := by first | (rw [hy402]; with_reducible exact H) | (have H2_ := (Option.bind_some _ _).symm.trans H; rw [hy402]; with_reducible exact H2_) | (have H2_ := (Option.bind_some _ _).symm.trans H; with_reducible exact H2_) | with_reducible exact H | (rw [hy402]; exact H) | exact H
          have Ny402 := Aside0.mk hy402
          clear hy402
          replace H := Option.bind_eq_some_iff.mp H
          obtain ⟨⟨t405, t406⟩, A170, H⟩ := H
          replace H : ((difference_Solve.f kj3 t386 y402).bind fun bt407 => (if t406 = 0 then (some (t405 == (bt407.2 == 10))) else (some false))) = some r := H
          have A17 := Aside0.mk A170
          clear A170
          replace H := Option.bind_eq_some_iff.mp H
          obtain ⟨⟨t407, t408⟩, A180, H⟩ := H
          replace H : (if t406 = 0 then (some (t405 == (t408 == 10))) else (some false)) = some r := H
          have A18 := Aside0.mk A180
          clear A180
          by_cases c19 : t406 = 0
          · rw [if_pos c19] at H
            have c19b0 : (t406 == 0) = true := beq_iff_eq.mpr c19
            have c19b1 : (t406 != 0) = false := bne_eq_false_iff_eq.mpr c19
            clear c19
            obtain rfl := Option.some.inj H
            try go_wp2_with (first | ((with_reducible refine gate_callee (f := 16) rfl ?_); refine goesL_ (some 26) rfl rfl Try.func16 (by kernel_rfl) rfl #[.int .u8 a0, .slice A1 l1.length c1] rfl (by (try simp only [List.map_toArray, List.map_cons, List.map_nil]); first | done | rfl | (simp only [List.length_drop, List.length_take]; rfl)) ?_; (with_reducible refine (scarfjointlaw03_few.calls kj3 a0 _ _ l1 t386 t387 _ ?side1 ?side2 A13.out).mono ?_); (case side1 => repeat (first | exact (Kd.C_below HR1.out HB.out) | (with_reducible refine Kd.C_alloc ?_ _) | (with_reducible refine Kd.C_drewN ?_ _) | (with_reducible refine Kd.C_drew ?_))); (case side2 => exact HC1.out); rintro e w20 ⟨v388, rfl, ho0, hb⟩; refine ⟨_, rfl, ?_⟩; have n0_ := Aside0.mk (Kd.R_lower ho0 (below_size (by repeat (first | (with_reducible first | exact HB.out | apply below_alloc | apply pw_below_drewN | apply below_drew1 | refine below_set ?_ GE383.out) | exact HB.out)))); have n1_ := Aside0.mk (blk_below (g := gb383) (o := .cells #[.int .i8 a2_0, .int .i8 a2_1, .int .i8 a2_2, .int .i8 a2_3] 44 (0, 0)) (by (with_reducible repeat (first | refine blk_drewN ?_ _ | refine blk_drew ?_ | refine blk_alloc ?_ _)); exact BK383.out) hb); have n2_ := Aside0.mk (below_step (by repeat (first | (with_reducible first | exact HB.out | apply below_alloc | apply pw_below_drewN | apply below_drew1 | refine below_set ?_ GE383.out) | exact HB.out)) hb); clear BK383; clear HB; have HO389 := n0_; have BK383 := n1_; have HB := n2_; clear n0_ n1_ n2_; (try clear hb); (try clear hb2); (try clear hk); (try clear hi); (try clear ho0); have hcz21_0 : w20.cell? ⟨gb383, 0, none⟩ = some (.int .i8 a2_0) := (blk_cell BK383.out 0).trans rfl; have hcz21_1 : w20.cell? ⟨gb383, 1, none⟩ = some (.int .i8 a2_1) := (blk_cell BK383.out 1).trans rfl; have hcz21_2 : w20.cell? ⟨gb383, 2, none⟩ = some (.int .i8 a2_2) := (blk_cell BK383.out 2).trans rfl; have hcz21_3 : w20.cell? ⟨gb383, 3, none⟩ = some (.int .i8 a2_3) := (blk_cell BK383.out 3).trans rfl; have hfz21_0 := blk_frozen BK383.out 0; have hfz21_1 := blk_frozen BK383.out 1; have hfz21_2 := blk_frozen BK383.out 2; have hfz21_3 := blk_frozen BK383.out 3) | ((with_reducible refine gate_callee (f := 19) rfl ?_); refine goesL_ (some 31) rfl rfl Try.func19 (by kernel_rfl) rfl #[.int .i64 t386, .agg #[.int .i8 a2_0, .int .i8 a2_1, .int .i8 a2_2, .int .i8 a2_3]] rfl (by (try simp only [List.map_toArray, List.map_cons, List.map_nil]); first | done | rfl | (simp only [List.length_drop, List.length_take]; rfl)) ?_; (with_reducible refine (scarfjointref03_Made.calls t386 a2_0 a2_1 a2_2 a2_3 t390 t391 t392 t393 t394 _ A14.out).mono ?_); rintro e w22 ⟨rfl, hb⟩; refine ⟨_, rfl, ?_⟩; have n0_ := Aside0.mk (Kd.R_below (by (with_reducible repeat (first | apply Kd.R_alloc | apply Kd.R_drewN | apply Kd.R_drew)); exact HO389.out) hb); have n1_ := Aside0.mk (blk_below (g := gb383) (o := .cells #[.int .i8 a2_0, .int .i8 a2_1, .int .i8 a2_2, .int .i8 a2_3] 44 (0, 0)) (by (with_reducible repeat (first | refine blk_drewN ?_ _ | refine blk_drew ?_ | refine blk_alloc ?_ _)); exact BK383.out) hb); have n2_ := Aside0.mk (below_step (by repeat (first | (with_reducible first | exact HB.out | apply below_alloc | apply pw_below_drewN | apply below_drew1 | refine below_set ?_ GE383.out) | exact HB.out)) hb); clear HO389; clear BK383; clear HB; have HO389 := n0_; have BK383 := n1_; have HB := n2_; clear n0_ n1_ n2_; (try clear hb); (try clear hb2); (try clear hk); (try clear hi)) | ((with_reducible refine gate_dst (N := 9) rfl ?_); (try (refine gate_guard (by rfl) ?_; dsimp only)); refine box_event ?hg (N := 9) ?hd (cs := #[.int .i64 0, .int .i64 0, .int .i64 0, .int .i64 0, .int .i64 0]) (t := 26) ?hr ?_; (case hd => rfl); (case hg => rfl); (case hr => first | (go_simp; done) | (go_simp; rfl)); intro gb395 hg w23 hbox hb; have n0_ := Aside0.mk (Kd.R_below (Kd.R_elderB (by (with_reducible repeat (first | apply Kd.R_alloc | apply Kd.R_drewN | apply Kd.R_drew)); exact HO389.out) gb395 (Nat.le_of_eq hg.symm)) hb); have n1_ := Aside0.mk (blk_below (g := gb383) (o := .cells #[.int .i8 a2_0, .int .i8 a2_1, .int .i8 a2_2, .int .i8 a2_3] 44 (0, 0)) (by (with_reducible repeat (first | refine blk_drewN ?_ _ | refine blk_drew ?_ | refine blk_alloc ?_ _)); exact BK383.out) hb); have n2_ := Aside0.mk (below_step (by repeat (first | (with_reducible first | exact HB.out | apply below_alloc | apply pw_below_drewN | apply below_drew1 | refine below_set ?_ GE383.out) | exact HB.out)) hb); have n3_ := Aside0.mk (hbox); have n4_ := Aside0.mk ((by rw [hg]; exact (below_size (by repeat (first | (with_reducible first | exact HB.out | apply below_alloc | apply pw_below_drewN | apply below_drew1 | refine below_set ?_ GE383.out) | exact HB.out))) : w.heap.size ≤ gb395)); have n5_ := Aside0.mk ((by rw [hg]; exact (below_size (by repeat (first | (with_reducible first | exact HB.out | apply below_alloc | apply pw_below_drewN | apply below_drew1 | refine below_set ?_ GE383.out) | exact HB.out))) : w.heap.size ≤ gb395)); have n6_ := Aside0.mk ((by rw [hg]; exact Nat.ne_of_lt (blk_lt (g := gb383) (o := .cells #[.int .i8 a2_0, .int .i8 a2_1, .int .i8 a2_2, .int .i8 a2_3] 44 (0, 0)) (by (with_reducible repeat (first | refine blk_drewN ?_ _ | refine blk_drew ?_ | refine blk_alloc ?_ _)); exact BK383.out)) : gb383 ≠ gb395)); have n7_ := Aside0.mk ((by rw [hg]; exact Nat.ne_of_gt (blk_lt (g := gb383) (o := .cells #[.int .i8 a2_0, .int .i8 a2_1, .int .i8 a2_2, .int .i8 a2_3] 44 (0, 0)) (by (with_reducible repeat (first | refine blk_drewN ?_ _ | refine blk_drew ?_ | refine blk_alloc ?_ _)); exact BK383.out)) : gb395 ≠ gb383)); clear HO389; clear BK383; clear HB; have HO389 := n0_; have BK383 := n1_; have HB := n2_; have BK395 := n3_; have GW395 := n4_; have GE395 := n5_; have NB383_395 := n6_; have NB395_383 := n7_; clear n0_ n1_ n2_ n3_ n4_ n5_ n6_ n7_; clear hb hbox hg; have hnb24 := NB395_383.out; have hnc24 := NB383_395.out; have hcz25_0 : w23.cell? ⟨gb395, 0, none⟩ = some (.int .i64 0) := (blk_cell BK395.out 0).trans rfl; have hcz25_1 : w23.cell? ⟨gb395, 1, none⟩ = some (.int .i64 0) := (blk_cell BK395.out 1).trans rfl; have hcz25_2 : w23.cell? ⟨gb395, 2, none⟩ = some (.int .i64 0) := (blk_cell BK395.out 2).trans rfl; have hcz25_3 : w23.cell? ⟨gb395, 3, none⟩ = some (.int .i64 0) := (blk_cell BK395.out 3).trans rfl; have hcz25_4 : w23.cell? ⟨gb395, 4, none⟩ = some (.int .i64 0) := (blk_cell BK395.out 4).trans rfl; have hfz25_0 := blk_frozen BK395.out 0; have hfz25_1 := blk_frozen BK395.out 1; have hfz25_2 := blk_frozen BK395.out 2; have hfz25_3 := blk_frozen BK395.out 3; have hfz25_4 := blk_frozen BK395.out 4; obtain ⟨Ao26, co26, eo26⟩ := Kd.R_slice HO389.out; subst eo26))
            have n0_ : Aside0 (Kd.R k26 26 ((((((w23.setCell ⟨gb395, 0, none⟩ (.int .i64 t390)).setCell ⟨gb395, 1, none⟩ (.int .i64 t391)).setCell ⟨gb395, 2, none⟩ (.int .i64 t392)).setCell ⟨gb395, 3, none⟩ (.int .i64 t393)).setCell ⟨gb395, 4, none⟩ (.int .i64 t394)).setCell ⟨gb395, 0, none⟩ (.int .i64 1)) w.heap.size (fun k_ => k_ ≠ gb395) (.slice Ao26 t387.length co26) t387) := ⟨by (with_reducible repeat (first | apply Kd.R_alloc | apply Kd.R_drewN | apply Kd.R_drew)); exact Kd.R_mono (Kd.R_far (p := ⟨gb395, 0, none⟩) (Kd.R_far (p := ⟨gb395, 4, none⟩) (Kd.R_far (p := ⟨gb395, 3, none⟩) (Kd.R_far (p := ⟨gb395, 2, none⟩) (Kd.R_far (p := ⟨gb395, 1, none⟩) (Kd.R_far (p := ⟨gb395, 0, none⟩) (Kd.R_mono HO389.out (fun k_ hk => (⟨hk, hk.2⟩ : _ ∧ k_ ≠ gb395))) (fun _ hk => hk.2) (.int .i64 t390)) (fun _ hk => hk.2) (.int .i64 t391)) (fun _ hk => hk.2) (.int .i64 t392)) (fun _ hk => hk.2) (.int .i64 t393)) (fun _ hk => hk.2) (.int .i64 t394)) (fun _ hk => hk.2) (.int .i64 1)) (fun _ hk => hk.1.2)⟩
            have n1_ : Aside0 (((((((w23.setCell ⟨gb395, 0, none⟩ (.int .i64 t390)).setCell ⟨gb395, 1, none⟩ (.int .i64 t391)).setCell ⟨gb395, 2, none⟩ (.int .i64 t392)).setCell ⟨gb395, 3, none⟩ (.int .i64 t393)).setCell ⟨gb395, 4, none⟩ (.int .i64 t394)).setCell ⟨gb395, 0, none⟩ (.int .i64 1)).heap[gb383]? = some (.cells #[.int .i8 a2_0, .int .i8 a2_1, .int .i8 a2_2, .int .i8 a2_3] 44 (0, 0))) := ⟨by (with_reducible repeat (first | refine blk_drewN ?_ _ | refine blk_drew ?_ | refine blk_alloc ?_ _)); refine blk_far ?_ NB383_395.out _; (with_reducible repeat (first | refine blk_drewN ?_ _ | refine blk_drew ?_ | refine blk_alloc ?_ _)); refine blk_far ?_ NB383_395.out _; (with_reducible repeat (first | refine blk_drewN ?_ _ | refine blk_drew ?_ | refine blk_alloc ?_ _)); refine blk_far ?_ NB383_395.out _; (with_reducible repeat (first | refine blk_drewN ?_ _ | refine blk_drew ?_ | refine blk_alloc ?_ _)); refine blk_far ?_ NB383_395.out _; (with_reducible repeat (first | refine blk_drewN ?_ _ | refine blk_drew ?_ | refine blk_alloc ?_ _)); refine blk_far ?_ NB383_395.out _; (with_reducible repeat (first | refine blk_drewN ?_ _ | refine blk_drew ?_ | refine blk_alloc ?_ _)); refine blk_far ?_ NB383_395.out _; (with_reducible repeat (first | refine blk_drewN ?_ _ | refine blk_drew ?_ | refine blk_alloc ?_ _)); exact BK383.out⟩
            have n2_ : Aside0 (((((((w23.setCell ⟨gb395, 0, none⟩ (.int .i64 t390)).setCell ⟨gb395, 1, none⟩ (.int .i64 t391)).setCell ⟨gb395, 2, none⟩ (.int .i64 t392)).setCell ⟨gb395, 3, none⟩ (.int .i64 t393)).setCell ⟨gb395, 4, none⟩ (.int .i64 t394)).setCell ⟨gb395, 0, none⟩ (.int .i64 1)).heap[gb395]? = some (.cells #[.int .i64 1, .int .i64 t391, .int .i64 t392, .int .i64 t393, .int .i64 t394] 26 (0, 0))) := ⟨by (with_reducible repeat (first | refine blk_drewN ?_ _ | refine blk_drew ?_ | refine blk_alloc ?_ _)); refine blk_put (cs := #[.int .i64 t390, .int .i64 t391, .int .i64 t392, .int .i64 t393, .int .i64 t394]) ?_ 0 _ rfl; (with_reducible repeat (first | refine blk_drewN ?_ _ | refine blk_drew ?_ | refine blk_alloc ?_ _)); refine blk_put (cs := #[.int .i64 t390, .int .i64 t391, .int .i64 t392, .int .i64 t393, .int .i64 0]) ?_ 4 _ rfl; (with_reducible repeat (first | refine blk_drewN ?_ _ | refine blk_drew ?_ | refine blk_alloc ?_ _)); refine blk_put (cs := #[.int .i64 t390, .int .i64 t391, .int .i64 t392, .int .i64 0, .int .i64 0]) ?_ 3 _ rfl; (with_reducible repeat (first | refine blk_drewN ?_ _ | refine blk_drew ?_ | refine blk_alloc ?_ _)); refine blk_put (cs := #[.int .i64 t390, .int .i64 t391, .int .i64 0, .int .i64 0, .int .i64 0]) ?_ 2 _ rfl; (with_reducible repeat (first | refine blk_drewN ?_ _ | refine blk_drew ?_ | refine blk_alloc ?_ _)); refine blk_put (cs := #[.int .i64 t390, .int .i64 0, .int .i64 0, .int .i64 0, .int .i64 0]) ?_ 1 _ rfl; (with_reducible repeat (first | refine blk_drewN ?_ _ | refine blk_drew ?_ | refine blk_alloc ?_ _)); refine blk_put (cs := #[.int .i64 0, .int .i64 0, .int .i64 0, .int .i64 0, .int .i64 0]) ?_ 0 _ rfl; (with_reducible repeat (first | refine blk_drewN ?_ _ | refine blk_drew ?_ | refine blk_alloc ?_ _)); exact BK395.out⟩
            have n3_ : Aside0 (Below w.heap.size w ((((((w23.setCell ⟨gb395, 0, none⟩ (.int .i64 t390)).setCell ⟨gb395, 1, none⟩ (.int .i64 t391)).setCell ⟨gb395, 2, none⟩ (.int .i64 t392)).setCell ⟨gb395, 3, none⟩ (.int .i64 t393)).setCell ⟨gb395, 4, none⟩ (.int .i64 t394)).setCell ⟨gb395, 0, none⟩ (.int .i64 1))) := ⟨by repeat (first | (with_reducible first | exact HB.out | apply below_alloc | apply pw_below_drewN | apply below_drew1 | refine below_set ?_ GE383.out | refine below_set ?_ GE395.out) | exact HB.out)⟩
            (try clear HO389)
            (try clear BK383)
            (try clear BK395)
            (try clear HB)
            generalize ((((((w23.setCell ⟨gb395, 0, none⟩ (.int .i64 t390)).setCell ⟨gb395, 1, none⟩ (.int .i64 t391)).setCell ⟨gb395, 2, none⟩ (.int .i64 t392)).setCell ⟨gb395, 3, none⟩ (.int .i64 t393)).setCell ⟨gb395, 4, none⟩ (.int .i64 t394)).setCell ⟨gb395, 0, none⟩ (.int .i64 1)) = w27 at n0_ n1_ n2_ n3_ ⊢
            have HO389 := n0_
            have BK383 := n1_
            have BK395 := n2_
            have HB := n3_
            clear n0_ n1_ n2_ n3_
            have n0_ := Aside0.mk (Kd.R_drew HO389.out)
            have n1_ := Aside0.mk (blk_drew BK383.out)
            have n2_ := Aside0.mk (blk_drew BK395.out)
            have n3_ := Aside0.mk (below_drew1 HB.out)
            clear HO389
            clear BK383
            clear BK395
            clear HB
            have HO389 := n0_
            have BK383 := n1_
            have BK395 := n2_
            have HB := n3_
            clear n0_ n1_ n2_ n3_
            refine start_ (n := 16) (S := fun w' => w'.cell? ⟨gb395, 0, none⟩ = some (.int .i64 1) ∧ w'.cell? ⟨gb395, 1, none⟩ = some (.int .i64 t391) ∧ w'.cell? ⟨gb395, 2, none⟩ = some (.int .i64 t392) ∧ w'.cell? ⟨gb395, 3, none⟩ = some (.int .i64 t393) ∧ w'.cell? ⟨gb395, 4, none⟩ = some (.int .i64 t394)) (ds := []) #[false, false, false, false, false, false, false, false, false, false, false, false, false, false, false, false] (by kernel_rfl) rfl rfl ⟨(blk_cell BK395.out 0).trans rfl, (blk_cell BK395.out 1).trans rfl, (blk_cell BK395.out 2).trans rfl, (blk_cell BK395.out 3).trans rfl, (blk_cell BK395.out 4).trans rfl⟩ (fun hHeld => ?_); refine with_tabW scarfjointlaw03_DifferenceOpposite.tab6 scarfjointlaw03_DifferenceOpposite.bits6 (fun HT_ HW_ => ?_)
            generalize w27.drew = w28 at HO389 BK383 BK395 HB hHeld ⊢
            refine pure_ (i := 0) (N := some 33) (v := ?_) (a' := ?_) #[true, false, false, false, false, false, false, false, false, false, false, false, false, false, false, false] rfl rfl (any_of HT_.out (by kernel_rfl)) (fun _ _ _ h => h) (Or.inl ⟨by rfl, ?_⟩) ?_ ?_
            rotate_left
            · intro w'
              go_simp
              with_reducible rfl
            rotate_left
            · simp only [Act.put, List.setIfInBounds_toArray, List.set_cons_zero, List.set_cons_succ, i64_w, i32_w]
              rfl
            refine pure_ (i := 2) (N := some 35) (v := ?_) (a' := ?_) #[true, false, true, false, false, false, false, false, false, false, false, false, false, false, false, false] rfl rfl (any_of HT_.out (by kernel_rfl)) (fun _ _ _ h => h) (Or.inl ⟨by rfl, ?_⟩) ?_ ?_
            rotate_left
            · intro w'
              go_simp
              with_reducible rfl
            rotate_left
            · simp only [Act.put, List.setIfInBounds_toArray, List.set_cons_zero, List.set_cons_succ, i64_w, i32_w]
              rfl
            refine pure_ (i := 3) (N := some 36) (v := ?_) (a' := ?_) #[true, false, true, true, false, false, false, false, false, false, false, false, false, false, false, false] rfl rfl (any_of HT_.out (by kernel_rfl)) (fun _ _ _ h => h) (Or.inl ⟨by rfl, ?_⟩) ?_ ?_
            rotate_left
            · intro w'
              go_simp
              with_reducible rfl
            rotate_left
            · simp only [Act.put, List.setIfInBounds_toArray, List.set_cons_zero, List.set_cons_succ, i64_w, i32_w]
              rfl
            refine pure_ (i := 5) (N := some 38) (v := ?_) (a' := ?_) #[true, false, true, true, false, true, false, false, false, false, false, false, false, false, false, false] rfl rfl (any_of HT_.out (by kernel_rfl)) (fun _ _ _ h => h) (Or.inl ⟨by rfl, ?_⟩) ?_ ?_
            rotate_left
            · intro w'
              go_simp
              with_reducible rfl
            rotate_left
            · simp only [Act.put, List.setIfInBounds_toArray, List.set_cons_zero, List.set_cons_succ, i64_w, i32_w]
              rfl
            refine pure_ (i := 6) (N := some 39) (v := ?_) (a' := ?_) #[true, false, true, true, false, true, true, false, false, false, false, false, false, false, false, false] rfl rfl (any_of HT_.out (by kernel_rfl)) (fun _ _ _ h => h) (Or.inl ⟨by rfl, ?_⟩) ?_ ?_
            rotate_left
            · intro w'
              go_simp
              with_reducible rfl
            rotate_left
            · simp only [Act.put, List.setIfInBounds_toArray, List.set_cons_zero, List.set_cons_succ, i64_w, i32_w]
              rfl
            refine pure_ (i := 10) (N := some 43) (v := ?_) (a' := ?_) #[true, false, true, true, false, true, true, false, false, false, true, false, false, false, false, false] rfl rfl (any_of HT_.out (by kernel_rfl)) (fun _ _ _ h => h) (Or.inl ⟨by rfl, ?_⟩) ?_ ?_
            rotate_left
            · intro w'
              go_simp
              with_reducible rfl
            rotate_left
            · simp only [Act.put, List.setIfInBounds_toArray, List.set_cons_zero, List.set_cons_succ, i64_w, i32_w]
              rfl
            refine take_ (i := 4) (N := some 37) (v := ?_) (a' := ?_) #[true, false, true, true, true, true, true, false, false, false, true, false, false, false, false, false] rfl rfl (take_ofW HT_.out HW_.out (by kernel_rfl)) (fun _ _ _ h => h) (Or.inl ⟨by rfl, ?_⟩) hHeld ?_ ?_
            rotate_left
            · rintro w' ⟨s0, s1, s2, s3, s4⟩
              go_simp
              with_reducible rfl
            rotate_left
            · simp only [Act.put, List.setIfInBounds_toArray, List.set_cons_zero, List.set_cons_succ, i64_w, i32_w]
              rfl
            refine take_ (i := 7) (N := some 40) (v := ?_) (a' := ?_) #[true, false, true, true, true, true, true, true, false, false, true, false, false, false, false, false] rfl rfl (take_ofW HT_.out HW_.out (by kernel_rfl)) (fun _ _ _ h => h) (Or.inl ⟨by rfl, ?_⟩) hHeld ?_ ?_
            rotate_left
            · rintro w' ⟨s0, s1, s2, s3, s4⟩
              go_simp
              with_reducible rfl
            rotate_left
            · simp only [Act.put, List.setIfInBounds_toArray, List.set_cons_zero, List.set_cons_succ, i64_w, i32_w]
              rfl
            refine pure_ (i := 8) (N := some 41) (v := ?_) (a' := ?_) #[true, false, true, true, true, true, true, true, true, false, true, false, false, false, false, false] rfl rfl (any_of HT_.out (by kernel_rfl)) (fun _ _ _ h => h) (Or.inl ⟨by rfl, ?_⟩) ?_ ?_
            rotate_left
            · intro w'
              go_simp
              with_reducible rfl
            rotate_left
            · simp only [Act.put, List.setIfInBounds_toArray, List.set_cons_zero, List.set_cons_succ, i64_w, i32_w]
              rfl
            refine pure_ (i := 9) (N := some 42) (v := ?_) (a' := ?_) #[true, false, true, true, true, true, true, true, true, true, true, false, false, false, false, false] rfl rfl (any_of HT_.out (by kernel_rfl)) (fun _ _ _ h => h) (Or.inl ⟨by rfl, ?_⟩) ?_ ?_
            rotate_left
            · intro w'
              go_simp
              with_reducible rfl
            rotate_left
            · simp only [Act.put, List.setIfInBounds_toArray, List.set_cons_zero, List.set_cons_succ, i64_w, i32_w]
              rfl
            refine take_ (i := 11) (N := some 44) (v := ?_) (a' := ?_) #[true, false, true, true, true, true, true, true, true, true, true, true, false, false, false, false] rfl rfl (take_ofW HT_.out HW_.out (by kernel_rfl)) (fun _ _ _ h => h) (Or.inl ⟨by rfl, ?_⟩) hHeld ?_ ?_
            rotate_left
            · rintro w' ⟨s0, s1, s2, s3, s4⟩
              go_simp
              with_reducible rfl
            rotate_left
            · simp only [Act.put, List.setIfInBounds_toArray, List.set_cons_zero, List.set_cons_succ, i64_w, i32_w]
              rfl
            refine pure_ (i := 12) (N := some 45) (v := ?_) (a' := ?_) #[true, false, true, true, true, true, true, true, true, true, true, true, true, false, false, false] rfl rfl (any_of HT_.out (by kernel_rfl)) (fun _ _ _ h => h) (Or.inl ⟨by rfl, ?_⟩) ?_ ?_
            rotate_left
            · intro w'
              go_simp
              with_reducible rfl
            rotate_left
            · simp only [Act.put, List.setIfInBounds_toArray, List.set_cons_zero, List.set_cons_succ, i64_w, i32_w]
              rfl
            refine join_ (σ := Value × Value) 2 #[true, true, true, true, true, true, true, true, true, true, true, true, true, true, false, false] (fun s_ => [(34, s_.1), (46, s_.2)]) (fun s_ w' => (w'.cell? ⟨gb395, 0, none⟩ = some (.int .i64 1) ∧ w'.cell? ⟨gb395, 1, none⟩ = some (.int .i64 t391) ∧ w'.cell? ⟨gb395, 2, none⟩ = some (.int .i64 t392) ∧ w'.cell? ⟨gb395, 3, none⟩ = some (.int .i64 t393) ∧ w'.cell? ⟨gb395, 4, none⟩ = some (.int .i64 t394)) ∧ (Kd.R k26 26 w' w.heap.size (fun k_ => some k_ ≠ (s_.1 : Value).ownBlock ∧ some k_ ≠ (s_.2 : Value).ownBlock ∧ k_ ≠ gb395) (.slice Ao26 t387.length co26) t387) ∧ (Kd.R k26 26 w' w.heap.size (fun k_ => some k_ ≠ (.slice Ao26 t387.length co26 : Value).ownBlock ∧ some k_ ≠ (s_.2 : Value).ownBlock ∧ k_ ≠ gb395) s_.1 t396) ∧ (Kd.R k26 26 w' w.heap.size (fun k_ => some k_ ≠ (.slice Ao26 t387.length co26 : Value).ownBlock ∧ some k_ ≠ (s_.1 : Value).ownBlock ∧ k_ ≠ gb395) s_.2 y399) ∧ (w'.heap[gb383]? = some (.cells #[.int .i8 a2_0, .int .i8 a2_1, .int .i8 a2_2, .int .i8 a2_3] 44 (0, 0))) ∧ (w'.heap[gb395]? = some (.cells #[.int .i64 1, .int .i64 t391, .int .i64 t392, .int .i64 t393, .int .i64 t394] 26 (0, 0))) ∧ (Below w.heap.size w w')) ?_ ?_
            rotate_left
            · intro hCont
              refine two_ (i := 1) (j := 13) (Ni := some 34) (Nj := some 46) #[true, true, true, true, true, true, true, true, true, true, true, true, true, false, false, false] #[true, false, true, true, true, true, true, true, true, true, true, true, true, true, false, false] rfl rfl rfl rfl (two_of HT_.out (by kernel_rfl)) (by decide) (by decide) (fun K hK => ?_) (fun K hK => ?_)
              · skip
                refine goes_ Try.func14 (by kernel_rfl) rfl #[.slice Ao26 t387.length co26] (by rfl) rfl rfl (by (try simp only [List.map_toArray, List.map_cons, List.map_nil]); first | done | rfl | (simp only [List.length_drop, List.length_take]; rfl)) ?_
                with_reducible refine (api_Test_14.calls _ _ t387 t396 _ ?side1 ?side2 A15.out).mono ?_
                (case side1 => repeat (first | exact (Kd.R_reads' HO389.out).2.2 | (with_reducible refine Kd.C_alloc ?_ _) | (with_reducible refine Kd.C_drewN ?_ _) | (with_reducible refine Kd.C_drew ?_)))
                (case side2 => exact (Kd.R_reads' HO389.out).2.1)
                rintro e w29 ⟨v397, rfl, ho0, hb⟩
                refine ⟨_, rfl, ?_⟩
                have n0_ := Aside0.mk (Kd.R_elder' (by (with_reducible repeat (first | apply Kd.R_alloc | apply Kd.R_drewN | apply Kd.R_drew)); exact HO389.out) (Kd.R_base ho0) hb)
                have n1_ := Aside0.mk (Kd.R_lower (Kd.R_newB (Kd.R_new' ho0 (Kd.R_lt (by (with_reducible repeat (first | apply Kd.R_alloc | apply Kd.R_drewN | apply Kd.R_drew)); exact HO389.out))) (g := gb395) (o := .cells #[.int .i64 1, .int .i64 t391, .int .i64 t392, .int .i64 t393, .int .i64 t394] 26 (0, 0)) (by (with_reducible repeat (first | refine blk_drewN ?_ _ | refine blk_drew ?_ | refine blk_alloc ?_ _)); exact BK395.out)) (below_size (by repeat (first | (with_reducible first | exact HB.out | apply below_alloc | apply pw_below_drewN | apply below_drew1 | refine below_set ?_ GE383.out | refine below_set ?_ GE395.out) | exact HB.out))))
                have n2_ := Aside0.mk (blk_below (g := gb383) (o := .cells #[.int .i8 a2_0, .int .i8 a2_1, .int .i8 a2_2, .int .i8 a2_3] 44 (0, 0)) (by (with_reducible repeat (first | refine blk_drewN ?_ _ | refine blk_drew ?_ | refine blk_alloc ?_ _)); exact BK383.out) hb)
                have n3_ := Aside0.mk (blk_below (g := gb395) (o := .cells #[.int .i64 1, .int .i64 t391, .int .i64 t392, .int .i64 t393, .int .i64 t394] 26 (0, 0)) (by (with_reducible repeat (first | refine blk_drewN ?_ _ | refine blk_drew ?_ | refine blk_alloc ?_ _)); exact BK395.out) hb)
                have n4_ := Aside0.mk (below_step (by repeat (first | (with_reducible first | exact HB.out | apply below_alloc | apply pw_below_drewN | apply below_drew1 | refine below_set ?_ GE383.out | refine below_set ?_ GE395.out) | exact HB.out)) hb)
                clear HO389
                clear BK383
                clear BK395
                clear HB
                have HO389 := n0_
                have HO398 := n1_
                have BK383 := n2_
                have BK395 := n3_
                have HB := n4_
                clear n0_ n1_ n2_ n3_ n4_
                (try clear hb)
                (try clear hb2)
                (try clear hk)
                (try clear hi)
                (try clear ho0)
                refine hK.out _ _ ⟨(blk_cell BK395.out 0).trans rfl, (blk_cell BK395.out 1).trans rfl, (blk_cell BK395.out 2).trans rfl, (blk_cell BK395.out 3).trans rfl, (blk_cell BK395.out 4).trans rfl⟩ (fun hHeld => ?_)
                clear hK K
                refine norm_ (a' := ?_) ?_ ?_
                rotate_left
                · show Act.put _ (some 34) _ = _
                  simp only [Act.put, List.setIfInBounds_toArray, List.set_cons_zero, List.set_cons_succ, i64_w, i32_w]
                  rfl
                refine one_ (i := 13) (N := some 46) #[true, true, true, true, true, true, true, true, true, true, true, true, true, true, false, false] rfl rfl (one_of HT_.out (by kernel_rfl)) (by decide) (fun K hK => ?_)
                refine Kd.R_lit_step k26 _ 26 ?hg (N := 46) ?hd (xs := ([(⟨1, (⟨t393, wrap64 (t394 + 1)⟩ : S24), (⟨t391, t392⟩ : S24)⟩ : S26)] : List (S26))) (inner := [.int .i64 1, .int .i64 t393, .int .i64 (wrap64 (t394 + 1)), .int .i64 t391, .int .i64 t392]) (ok := fun _ => True) (okp := fun _ => True) ?hr ?hp (fun _ hk => hk) trivial (Below.refl _ _) (Nat.le_refl _) (by simp) ?_; (case hd => rfl); (case hg => rfl); (case hr => first | (go_simp; done) | (go_simp; rfl)); (case hp => exact (Reps.c5 (show Kd.M k26 _ _ _ (⟨1, (⟨t393, wrap64 (t394 + 1)⟩ : S24), (⟨t391, t392⟩ : S24)⟩ : S26) [.int .i64 1, .int .i64 t393, .int .i64 (wrap64 (t394 + 1)), .int .i64 t391, .int .i64 t392] from (k26_mkM _ _ _ (⟨1, (⟨t393, wrap64 (t394 + 1)⟩ : S24), (⟨t391, t392⟩ : S24)⟩ : S26) )) (Reps.none _ _)))
                intro v400 w30 ho31 hb hg_ hnew_
                clear hg_ hnew_
                (first | rw [← Ny399.out] at ho31 | (simp only [Int.reduceToNat] at ho31; rw [← Ny399.out] at ho31))
                have n0_ := Aside0.mk (Kd.R_elder' (by (with_reducible repeat (first | apply Kd.R_alloc | apply Kd.R_drewN | apply Kd.R_drew)); exact HO389.out) (Kd.R_base ho31) hb)
                have n1_ := Aside0.mk (Kd.R_elder' (by (with_reducible repeat (first | apply Kd.R_alloc | apply Kd.R_drewN | apply Kd.R_drew)); exact HO398.out) (Kd.R_base ho31) hb)
                have n2_ := Aside0.mk (Kd.R_lower (Kd.R_newB (Kd.R_new' (Kd.R_new' ho31 (Kd.R_lt (by (with_reducible repeat (first | apply Kd.R_alloc | apply Kd.R_drewN | apply Kd.R_drew)); exact HO389.out))) (Kd.R_lt (by (with_reducible repeat (first | apply Kd.R_alloc | apply Kd.R_drewN | apply Kd.R_drew)); exact HO398.out))) (g := gb395) (o := .cells #[.int .i64 1, .int .i64 t391, .int .i64 t392, .int .i64 t393, .int .i64 t394] 26 (0, 0)) (by (with_reducible repeat (first | refine blk_drewN ?_ _ | refine blk_drew ?_ | refine blk_alloc ?_ _)); exact BK395.out)) (below_size (by repeat (first | (with_reducible first | exact HB.out | apply below_alloc | apply pw_below_drewN | apply below_drew1 | refine below_set ?_ GE383.out | refine below_set ?_ GE395.out) | exact HB.out))))
                have n3_ := Aside0.mk (blk_below (g := gb383) (o := .cells #[.int .i8 a2_0, .int .i8 a2_1, .int .i8 a2_2, .int .i8 a2_3] 44 (0, 0)) (by (with_reducible repeat (first | refine blk_drewN ?_ _ | refine blk_drew ?_ | refine blk_alloc ?_ _)); exact BK383.out) hb)
                have n4_ := Aside0.mk (blk_below (g := gb395) (o := .cells #[.int .i64 1, .int .i64 t391, .int .i64 t392, .int .i64 t393, .int .i64 t394] 26 (0, 0)) (by (with_reducible repeat (first | refine blk_drewN ?_ _ | refine blk_drew ?_ | refine blk_alloc ?_ _)); exact BK395.out) hb)
                have n5_ := Aside0.mk (below_step (by repeat (first | (with_reducible first | exact HB.out | apply below_alloc | apply pw_below_drewN | apply below_drew1 | refine below_set ?_ GE383.out | refine below_set ?_ GE395.out) | exact HB.out)) hb)
                clear HO389
                clear HO398
                clear BK383
                clear BK395
                clear HB
                have HO389 := n0_
                have HO398 := n1_
                have HO401 := n2_
                have BK383 := n3_
                have BK395 := n4_
                have HB := n5_
                clear n0_ n1_ n2_ n3_ n4_ n5_
                clear hb ho31
                refine hK.out _ _ ⟨(blk_cell BK395.out 0).trans rfl, (blk_cell BK395.out 1).trans rfl, (blk_cell BK395.out 2).trans rfl, (blk_cell BK395.out 3).trans rfl, (blk_cell BK395.out 4).trans rfl⟩ (fun hHeld => ?_)
                clear hK K
                refine norm_ (a' := ?_) ?_ ?_
                rotate_left
                · show Act.put _ (some 46) _ = _
                  simp only [Act.put, List.setIfInBounds_toArray, List.set_cons_zero, List.set_cons_succ, i64_w, i32_w]
                  rfl
                exact norm_ (by simp only [putAll, Act.put, List.setIfInBounds_toArray, List.set_cons_zero, List.set_cons_succ]) (hCont (v397, v400) _ ⟨hHeld, (by (with_reducible repeat (first | apply Kd.R_alloc | apply Kd.R_drewN | apply Kd.R_drew)); exact Kd.R_mono HO389.out (fun _ hk => ⟨hk.1.2, ⟨hk.2, hk.1.1⟩⟩)), (by (with_reducible repeat (first | apply Kd.R_alloc | apply Kd.R_drewN | apply Kd.R_drew)); exact Kd.R_mono HO398.out (fun _ hk => ⟨hk.1.1.2, ⟨hk.2, hk.1.2⟩⟩)), (by (with_reducible repeat (first | apply Kd.R_alloc | apply Kd.R_drewN | apply Kd.R_drew)); exact Kd.R_mono HO401.out (fun _ hk => ⟨hk.1.1.2, ⟨hk.1.2, hk.2⟩⟩)), (by (with_reducible repeat (first | refine blk_drewN ?_ _ | refine blk_drew ?_ | refine blk_alloc ?_ _)); exact BK383.out), (by (with_reducible repeat (first | refine blk_drewN ?_ _ | refine blk_drew ?_ | refine blk_alloc ?_ _)); exact BK395.out), (by repeat (first | (with_reducible first | exact HB.out | apply below_alloc | apply pw_below_drewN | apply below_drew1 | refine below_set ?_ GE383.out | refine below_set ?_ GE395.out) | exact HB.out))⟩)
              · skip
                refine Kd.R_lit_step k26 _ 26 ?hg (N := 46) ?hd (xs := ([(⟨1, (⟨t393, wrap64 (t394 + 1)⟩ : S24), (⟨t391, t392⟩ : S24)⟩ : S26)] : List (S26))) (inner := [.int .i64 1, .int .i64 t393, .int .i64 (wrap64 (t394 + 1)), .int .i64 t391, .int .i64 t392]) (ok := fun _ => True) (okp := fun _ => True) ?hr ?hp (fun _ hk => hk) trivial (Below.refl _ _) (Nat.le_refl _) (by simp) ?_; (case hd => rfl); (case hg => rfl); (case hr => first | (go_simp; done) | (go_simp; rfl)); (case hp => exact (Reps.c5 (show Kd.M k26 _ _ _ (⟨1, (⟨t393, wrap64 (t394 + 1)⟩ : S24), (⟨t391, t392⟩ : S24)⟩ : S26) [.int .i64 1, .int .i64 t393, .int .i64 (wrap64 (t394 + 1)), .int .i64 t391, .int .i64 t392] from (k26_mkM _ _ _ (⟨1, (⟨t393, wrap64 (t394 + 1)⟩ : S24), (⟨t391, t392⟩ : S24)⟩ : S26) )) (Reps.none _ _)))
                intro v400 w29 ho30 hb hg_ hnew_
                clear hg_ hnew_
                (first | rw [← Ny399.out] at ho30 | (simp only [Int.reduceToNat] at ho30; rw [← Ny399.out] at ho30))
                have n0_ := Aside0.mk (Kd.R_elder' (by (with_reducible repeat (first | apply Kd.R_alloc | apply Kd.R_drewN | apply Kd.R_drew)); exact HO389.out) (Kd.R_base ho30) hb)
                have n1_ := Aside0.mk (Kd.R_lower (Kd.R_newB (Kd.R_new' ho30 (Kd.R_lt (by (with_reducible repeat (first | apply Kd.R_alloc | apply Kd.R_drewN | apply Kd.R_drew)); exact HO389.out))) (g := gb395) (o := .cells #[.int .i64 1, .int .i64 t391, .int .i64 t392, .int .i64 t393, .int .i64 t394] 26 (0, 0)) (by (with_reducible repeat (first | refine blk_drewN ?_ _ | refine blk_drew ?_ | refine blk_alloc ?_ _)); exact BK395.out)) (below_size (by repeat (first | (with_reducible first | exact HB.out | apply below_alloc | apply pw_below_drewN | apply below_drew1 | refine below_set ?_ GE383.out | refine below_set ?_ GE395.out) | exact HB.out))))
                have n2_ := Aside0.mk (blk_below (g := gb383) (o := .cells #[.int .i8 a2_0, .int .i8 a2_1, .int .i8 a2_2, .int .i8 a2_3] 44 (0, 0)) (by (with_reducible repeat (first | refine blk_drewN ?_ _ | refine blk_drew ?_ | refine blk_alloc ?_ _)); exact BK383.out) hb)
                have n3_ := Aside0.mk (blk_below (g := gb395) (o := .cells #[.int .i64 1, .int .i64 t391, .int .i64 t392, .int .i64 t393, .int .i64 t394] 26 (0, 0)) (by (with_reducible repeat (first | refine blk_drewN ?_ _ | refine blk_drew ?_ | refine blk_alloc ?_ _)); exact BK395.out) hb)
                have n4_ := Aside0.mk (below_step (by repeat (first | (with_reducible first | exact HB.out | apply below_alloc | apply pw_below_drewN | apply below_drew1 | refine below_set ?_ GE383.out | refine below_set ?_ GE395.out) | exact HB.out)) hb)
                clear HO389
                clear BK383
                clear BK395
                clear HB
                have HO389 := n0_
                have HO401 := n1_
                have BK383 := n2_
                have BK395 := n3_
                have HB := n4_
                clear n0_ n1_ n2_ n3_ n4_
                clear hb ho30
                refine hK.out _ _ ⟨(blk_cell BK395.out 0).trans rfl, (blk_cell BK395.out 1).trans rfl, (blk_cell BK395.out 2).trans rfl, (blk_cell BK395.out 3).trans rfl, (blk_cell BK395.out 4).trans rfl⟩ (fun hHeld => ?_)
                clear hK K
                refine norm_ (a' := ?_) ?_ ?_
                rotate_left
                · show Act.put _ (some 46) _ = _
                  simp only [Act.put, List.setIfInBounds_toArray, List.set_cons_zero, List.set_cons_succ, i64_w, i32_w]
                  rfl
                refine one_ (i := 1) (N := some 34) #[true, true, true, true, true, true, true, true, true, true, true, true, true, true, false, false] rfl rfl (one_of HT_.out (by kernel_rfl)) (by decide) (fun K hK => ?_)
                refine goes_ Try.func14 (by kernel_rfl) rfl #[.slice Ao26 t387.length co26] (by rfl) rfl rfl (by (try simp only [List.map_toArray, List.map_cons, List.map_nil]); first | done | rfl | (simp only [List.length_drop, List.length_take]; rfl)) ?_
                with_reducible refine (api_Test_14.calls _ _ t387 t396 _ ?side1 ?side2 A15.out).mono ?_
                (case side1 => repeat (first | exact (Kd.R_reads' HO389.out).2.2 | (with_reducible refine Kd.C_alloc ?_ _) | (with_reducible refine Kd.C_drewN ?_ _) | (with_reducible refine Kd.C_drew ?_)))
                (case side2 => exact (Kd.R_reads' HO389.out).2.1)
                rintro e w31 ⟨v397, rfl, ho0, hb⟩
                refine ⟨_, rfl, ?_⟩
                have n0_ := Aside0.mk (Kd.R_elder' (by (with_reducible repeat (first | apply Kd.R_alloc | apply Kd.R_drewN | apply Kd.R_drew)); exact HO389.out) (Kd.R_base ho0) hb)
                have n1_ := Aside0.mk (Kd.R_elder' (by (with_reducible repeat (first | apply Kd.R_alloc | apply Kd.R_drewN | apply Kd.R_drew)); exact HO401.out) (Kd.R_base ho0) hb)
                have n2_ := Aside0.mk (Kd.R_lower (Kd.R_newB (Kd.R_new' (Kd.R_new' ho0 (Kd.R_lt (by (with_reducible repeat (first | apply Kd.R_alloc | apply Kd.R_drewN | apply Kd.R_drew)); exact HO389.out))) (Kd.R_lt (by (with_reducible repeat (first | apply Kd.R_alloc | apply Kd.R_drewN | apply Kd.R_drew)); exact HO401.out))) (g := gb395) (o := .cells #[.int .i64 1, .int .i64 t391, .int .i64 t392, .int .i64 t393, .int .i64 t394] 26 (0, 0)) (by (with_reducible repeat (first | refine blk_drewN ?_ _ | refine blk_drew ?_ | refine blk_alloc ?_ _)); exact BK395.out)) (below_size (by repeat (first | (with_reducible first | exact HB.out | apply below_alloc | apply pw_below_drewN | apply below_drew1 | refine below_set ?_ GE383.out | refine below_set ?_ GE395.out) | exact HB.out))))
                have n3_ := Aside0.mk (blk_below (g := gb383) (o := .cells #[.int .i8 a2_0, .int .i8 a2_1, .int .i8 a2_2, .int .i8 a2_3] 44 (0, 0)) (by (with_reducible repeat (first | refine blk_drewN ?_ _ | refine blk_drew ?_ | refine blk_alloc ?_ _)); exact BK383.out) hb)
                have n4_ := Aside0.mk (blk_below (g := gb395) (o := .cells #[.int .i64 1, .int .i64 t391, .int .i64 t392, .int .i64 t393, .int .i64 t394] 26 (0, 0)) (by (with_reducible repeat (first | refine blk_drewN ?_ _ | refine blk_drew ?_ | refine blk_alloc ?_ _)); exact BK395.out) hb)
                have n5_ := Aside0.mk (below_step (by repeat (first | (with_reducible first | exact HB.out | apply below_alloc | apply pw_below_drewN | apply below_drew1 | refine below_set ?_ GE383.out | refine below_set ?_ GE395.out) | exact HB.out)) hb)
                clear HO389
                clear HO401
                clear BK383
                clear BK395
                clear HB
                have HO389 := n0_
                have HO401 := n1_
                have HO398 := n2_
                have BK383 := n3_
                have BK395 := n4_
                have HB := n5_
                clear n0_ n1_ n2_ n3_ n4_ n5_
                (try clear hb)
                (try clear hb2)
                (try clear hk)
                (try clear hi)
                (try clear ho0)
                refine hK.out _ _ ⟨(blk_cell BK395.out 0).trans rfl, (blk_cell BK395.out 1).trans rfl, (blk_cell BK395.out 2).trans rfl, (blk_cell BK395.out 3).trans rfl, (blk_cell BK395.out 4).trans rfl⟩ (fun hHeld => ?_)
                clear hK K
                refine norm_ (a' := ?_) ?_ ?_
                rotate_left
                · show Act.put _ (some 34) _ = _
                  simp only [Act.put, List.setIfInBounds_toArray, List.set_cons_zero, List.set_cons_succ, i64_w, i32_w]
                  rfl
                exact norm_ (by simp only [putAll, Act.put, List.setIfInBounds_toArray, List.set_cons_zero, List.set_cons_succ]) (hCont (v397, v400) _ ⟨hHeld, (by (with_reducible repeat (first | apply Kd.R_alloc | apply Kd.R_drewN | apply Kd.R_drew)); exact Kd.R_mono HO389.out (fun _ hk => ⟨hk.2, ⟨hk.1.2, hk.1.1⟩⟩)), (by (with_reducible repeat (first | apply Kd.R_alloc | apply Kd.R_drewN | apply Kd.R_drew)); exact Kd.R_mono HO398.out (fun _ hk => ⟨hk.1.1.2, ⟨hk.1.2, hk.2⟩⟩)), (by (with_reducible repeat (first | apply Kd.R_alloc | apply Kd.R_drewN | apply Kd.R_drew)); exact Kd.R_mono HO401.out (fun _ hk => ⟨hk.1.1.2, ⟨hk.2, hk.1.2⟩⟩)), (by (with_reducible repeat (first | refine blk_drewN ?_ _ | refine blk_drew ?_ | refine blk_alloc ?_ _)); exact BK383.out), (by (with_reducible repeat (first | refine blk_drewN ?_ _ | refine blk_drew ?_ | refine blk_alloc ?_ _)); exact BK395.out), (by repeat (first | (with_reducible first | exact HB.out | apply below_alloc | apply pw_below_drewN | apply below_drew1 | refine below_set ?_ GE383.out | refine below_set ?_ GE395.out) | exact HB.out))⟩)
            rintro ⟨v397, v400⟩ w32 ⟨hS_, h0_, h1_, h2_, h3_, h4_, h5_⟩
            have n0_ : Aside0 (Kd.R k26 26 w32 w.heap.size (fun k_ => some k_ ≠ (v397 : Value).ownBlock ∧ some k_ ≠ (v400 : Value).ownBlock ∧ k_ ≠ gb395) (.slice Ao26 t387.length co26) t387) := ⟨h0_⟩
            have n1_ : Aside0 (Kd.R k26 26 w32 w.heap.size (fun k_ => some k_ ≠ (.slice Ao26 t387.length co26 : Value).ownBlock ∧ some k_ ≠ (v400 : Value).ownBlock ∧ k_ ≠ gb395) v397 t396) := ⟨h1_⟩
            have n2_ : Aside0 (Kd.R k26 26 w32 w.heap.size (fun k_ => some k_ ≠ (.slice Ao26 t387.length co26 : Value).ownBlock ∧ some k_ ≠ (v397 : Value).ownBlock ∧ k_ ≠ gb395) v400 y399) := ⟨h2_⟩
            have n3_ : Aside0 (w32.heap[gb383]? = some (.cells #[.int .i8 a2_0, .int .i8 a2_1, .int .i8 a2_2, .int .i8 a2_3] 44 (0, 0))) := ⟨h3_⟩
            have n4_ : Aside0 (w32.heap[gb395]? = some (.cells #[.int .i64 1, .int .i64 t391, .int .i64 t392, .int .i64 t393, .int .i64 t394] 26 (0, 0))) := ⟨h4_⟩
            have n5_ : Aside0 (Below w.heap.size w w32) := ⟨h5_⟩
            clear HO389
            clear BK383
            clear BK395
            clear HB
            clear h0_ h1_ h2_ h3_ h4_ h5_
            have HO389 := n0_
            have HO398 := n1_
            have HO401 := n2_
            have BK383 := n3_
            have BK395 := n4_
            have HB := n5_
            clear n0_ n1_ n2_ n3_ n4_ n5_
            have hHeld : w32.cell? ⟨gb395, 0, none⟩ = some (.int .i64 1) ∧ w32.cell? ⟨gb395, 1, none⟩ = some (.int .i64 t391) ∧ w32.cell? ⟨gb395, 2, none⟩ = some (.int .i64 t392) ∧ w32.cell? ⟨gb395, 3, none⟩ = some (.int .i64 t393) ∧ w32.cell? ⟨gb395, 4, none⟩ = some (.int .i64 t394) := hS_
            obtain ⟨Ao34, co34, eo34⟩ := Kd.R_slice HO401.out
            (first | subst eo34 | (injection eo34 with f1_ f2_ f3_; have f4_ := f1_.symm; have f5_ := f3_.symm; clear f1_ f2_ f3_; subst f4_; subst f5_))
            refine norm_ (a' := ?_) ?_ ?_
            rotate_left
            · simp only [putAll, Act.put, List.setIfInBounds_toArray, List.set_cons_zero, List.set_cons_succ]
              rfl
            refine one_ (i := 14) (N := some 47) #[true, true, true, true, true, true, true, true, true, true, true, true, true, true, true, false] rfl rfl (one_of HT_.out (by kernel_rfl)) (by decide) (fun K hK => ?_)
            refine Kd.R_append_rows_step k26 (w0 := w) w.heap.size (by rfl) (.tmp 34) (.tmp 46) 22 26 (.agg #[(.int .i64 0), (.int .i64 0), (.int .i64 0), (.int .i64 0), (.int .i64 0)]) 40 rfl Try.underlying22 info26 rfl (by decide) (by omega) v397 t396 y399 _ _ _ (fun k_ => some k_ ≠ (.slice Ao26 t387.length co26 : Value).ownBlock ∧ some k_ ≠ (.slice Ao34 y399.length co34 : Value).ownBlock ∧ k_ ≠ gb395) (fun _ => False) rfl rfl ?aO ?aR (fun _ _ h => h) (fun _ h => h.elim) ?aF ?aB ?aS ?aL ?_
            (case aR => repeat (first | exact (Kd.R_reads' HO401.out).2.2 | (with_reducible refine Kd.C_alloc ?_ _) | (with_reducible refine Kd.C_drewN ?_ _) | (with_reducible refine Kd.C_drew ?_)))
            (case aB => exact (by repeat (first | (with_reducible first | exact HB.out | apply below_alloc | apply pw_below_drewN | apply below_drew1 | refine below_set ?_ GE383.out | refine below_set ?_ GE395.out) | exact HB.out)))
            (case aF => exact (fun k_ hk => ⟨Kd.fresh' (Kd.R_lt (by (with_reducible repeat (first | apply Kd.R_alloc | apply Kd.R_drewN | apply Kd.R_drew)); exact HO389.out)) k_ hk, Kd.fresh' (Kd.R_lt (by (with_reducible repeat (first | apply Kd.R_alloc | apply Kd.R_drewN | apply Kd.R_drew)); exact HO401.out)) k_ hk, Kd.freshB (g := gb395) (o := .cells #[.int .i64 1, .int .i64 t391, .int .i64 t392, .int .i64 t393, .int .i64 t394] 26 (0, 0)) (by (with_reducible repeat (first | refine blk_drewN ?_ _ | refine blk_drew ?_ | refine blk_alloc ?_ _)); exact BK395.out) k_ hk⟩))
            (case aO => exact (by (with_reducible repeat (first | apply Kd.R_alloc | apply Kd.R_drewN | apply Kd.R_drew)); exact HO398.out))
            (case aS => exact (below_size (by repeat (first | (with_reducible first | exact HB.out | apply below_alloc | apply pw_below_drewN | apply below_drew1 | refine below_set ?_ GE383.out | refine below_set ?_ GE395.out) | exact HB.out))))
            (case aL => have := LMc16.out; omega)
            intro v403 w33 ho hb hg hat
            rw [← Ny402.out] at ho
            have n0_ := Aside0.mk (blk_grown (g := gb383) (o := .cells #[.int .i8 a2_0, .int .i8 a2_1, .int .i8 a2_2, .int .i8 a2_3] 44 (0, 0)) (by (with_reducible repeat (first | refine blk_drewN ?_ _ | refine blk_drew ?_ | refine blk_alloc ?_ _)); exact BK383.out) hg (Kd.R_ne HO398.out BK383.out (by decide)))
            have n1_ := Aside0.mk (Kd.R_after (ok := (fun k_ => some k_ ≠ (.slice Ao34 y399.length co34 : Value).ownBlock ∧ k_ ≠ gb395)) (by (with_reducible repeat (first | apply Kd.R_alloc | apply Kd.R_drewN | apply Kd.R_drew)); exact Kd.R_mono HO389.out (fun _ hk => ⟨⟨hk.2.1, hk.2.2⟩, hk.1⟩)) hg hat)
            have n2_ := Aside0.mk (blk_grown (g := gb395) (o := .cells #[.int .i64 1, .int .i64 t391, .int .i64 t392, .int .i64 t393, .int .i64 t394] 26 (0, 0)) (by (with_reducible repeat (first | refine blk_drewN ?_ _ | refine blk_drew ?_ | refine blk_alloc ?_ _)); exact BK395.out) hg (Kd.R_away HO398.out (fun _ hk => hk.2.2)))
            have n3_ := Aside0.mk (Kd.R_after (ok := (fun k_ => some k_ ≠ (.slice Ao26 t387.length co26 : Value).ownBlock ∧ k_ ≠ gb395)) (by (with_reducible repeat (first | apply Kd.R_alloc | apply Kd.R_drewN | apply Kd.R_drew)); exact Kd.R_mono HO401.out (fun _ hk => ⟨⟨hk.1, hk.2.2⟩, hk.2.1⟩)) hg hat)
            have n4_ := Aside0.mk (hb)
            have n5_ := Aside0.mk (ho)
            clear BK383
            clear HO389
            clear BK395
            clear HO401
            clear HB
            clear HO398
            have BK383 := n0_
            have HO389 := n1_
            have BK395 := n2_
            have HO401 := n3_
            have HB := n4_
            have HO404 := n5_
            clear n0_ n1_ n2_ n3_ n4_ n5_
            clear ho hb hg hat
            refine hK.out _ _ ⟨(blk_cell BK395.out 0).trans rfl, (blk_cell BK395.out 1).trans rfl, (blk_cell BK395.out 2).trans rfl, (blk_cell BK395.out 3).trans rfl, (blk_cell BK395.out 4).trans rfl⟩ (fun hHeld => ?_)
            clear hK K
            refine norm_ (a' := ?_) ?_ ?_
            rotate_left
            · show Act.put _ (some 47) _ = _
              simp only [Act.put, List.setIfInBounds_toArray, List.set_cons_zero, List.set_cons_succ, i64_w, i32_w]
              rfl
            refine pure_ (i := 15) (N := some 10) (v := ?_) (a' := ?_) #[true, true, true, true, true, true, true, true, true, true, true, true, true, true, true, true] rfl rfl (any_of HT_.out (by kernel_rfl)) (fun _ _ _ h => h) (Or.inl ⟨by rfl, ?_⟩) ?_ ?_
            rotate_left
            · intro w'
              go_simp
              with_reducible rfl
            rotate_left
            · simp only [Act.put, List.setIfInBounds_toArray, List.set_cons_zero, List.set_cons_succ, i64_w, i32_w]
              rfl
            refine done_ (done_of HT_.out (by kernel_rfl)) ?_
            have hcz35_0 : w33.cell? ⟨gb395, 0, none⟩ = some (.int .i64 1) := (blk_cell BK395.out 0).trans rfl
            have hcz35_1 : w33.cell? ⟨gb395, 1, none⟩ = some (.int .i64 t391) := (blk_cell BK395.out 1).trans rfl
            have hcz35_2 : w33.cell? ⟨gb395, 2, none⟩ = some (.int .i64 t392) := (blk_cell BK395.out 2).trans rfl
            have hcz35_3 : w33.cell? ⟨gb395, 3, none⟩ = some (.int .i64 t393) := (blk_cell BK395.out 3).trans rfl
            have hcz35_4 : w33.cell? ⟨gb395, 4, none⟩ = some (.int .i64 t394) := (blk_cell BK395.out 4).trans rfl
            have hfz35_0 := blk_frozen BK395.out 0
            have hfz35_1 := blk_frozen BK395.out 1
            have hfz35_2 := blk_frozen BK395.out 2
            have hfz35_3 := blk_frozen BK395.out 3
            have hfz35_4 := blk_frozen BK395.out 4
            try go_wp2_with (first | ((with_reducible refine gate_callee (f := 13) rfl ?_); refine goesL_ (some 52) rfl rfl Try.func13 (by kernel_rfl) rfl #[.int .i64 t386, .slice Ao26 t387.length co26, .agg #[.int .i64 1, .int .i64 t391, .int .i64 t392, .int .i64 t393, .int .i64 t394]] rfl (by (try simp only [List.map_toArray, List.map_cons, List.map_nil]); first | done | rfl | (simp only [List.length_drop, List.length_take]; rfl)) ?_; (with_reducible refine (difference_Implies.calls kj3 t386 _ _ t387 1 t391 t392 t393 t394 t405 t406 _ ?side1 ?side2 A17.out).mono ?_); (case side1 => repeat (first | exact (Kd.R_reads' HO389.out).2.2 | (with_reducible refine Kd.C_alloc ?_ _) | (with_reducible refine Kd.C_drewN ?_ _) | (with_reducible refine Kd.C_drew ?_))); (case side2 => exact (Kd.R_reads' HO389.out).2.1); rintro e w36 ⟨rfl, hb⟩; refine ⟨_, rfl, ?_⟩; have n0_ := Aside0.mk (Kd.R_below (by (with_reducible repeat (first | apply Kd.R_alloc | apply Kd.R_drewN | apply Kd.R_drew)); exact HO389.out) hb); have n1_ := Aside0.mk (Kd.R_below (by (with_reducible repeat (first | apply Kd.R_alloc | apply Kd.R_drewN | apply Kd.R_drew)); exact HO401.out) hb); have n2_ := Aside0.mk (Kd.R_below (by (with_reducible repeat (first | apply Kd.R_alloc | apply Kd.R_drewN | apply Kd.R_drew)); exact HO404.out) hb); have n3_ := Aside0.mk (blk_below (g := gb383) (o := .cells #[.int .i8 a2_0, .int .i8 a2_1, .int .i8 a2_2, .int .i8 a2_3] 44 (0, 0)) (by (with_reducible repeat (first | refine blk_drewN ?_ _ | refine blk_drew ?_ | refine blk_alloc ?_ _)); exact BK383.out) hb); have n4_ := Aside0.mk (blk_below (g := gb395) (o := .cells #[.int .i64 1, .int .i64 t391, .int .i64 t392, .int .i64 t393, .int .i64 t394] 26 (0, 0)) (by (with_reducible repeat (first | refine blk_drewN ?_ _ | refine blk_drew ?_ | refine blk_alloc ?_ _)); exact BK395.out) hb); have n5_ := Aside0.mk (below_step (by repeat (first | (with_reducible first | exact HB.out | apply below_alloc | apply pw_below_drewN | apply below_drew1 | refine below_set ?_ GE383.out | refine below_set ?_ GE395.out) | exact HB.out)) hb); clear HO389; clear HO401; clear HO404; clear BK383; clear BK395; clear HB; have HO389 := n0_; have HO401 := n1_; have HO404 := n2_; have BK383 := n3_; have BK395 := n4_; have HB := n5_; clear n0_ n1_ n2_ n3_ n4_ n5_; (try clear hb); (try clear hb2); (try clear hk); (try clear hi); obtain ⟨Ao37, co37, eo37⟩ := Kd.R_slice HO404.out; subst eo37) | ((with_reducible refine gate_callee (f := 17) rfl ?_); refine goesL_ (some 58) rfl rfl Try.func17 (by kernel_rfl) rfl #[.int .i64 t386, .slice Ao37 y402.length co37] rfl (by (try simp only [List.map_toArray, List.map_cons, List.map_nil]); first | done | rfl | (simp only [List.length_drop, List.length_take]; rfl)) ?_; (with_reducible refine (difference_Solve.calls kj3 t386 _ _ y402 t407 t408 _ ?side1 ?side2 A18.out).mono ?_); (case side1 => repeat (first | exact (Kd.R_reads' HO404.out).2.2 | (with_reducible refine Kd.C_alloc ?_ _) | (with_reducible refine Kd.C_drewN ?_ _) | (with_reducible refine Kd.C_drew ?_))); (case side2 => exact (Kd.R_reads' HO404.out).2.1); rintro e w38 ⟨v409, rfl, ho0, hb⟩; refine ⟨_, rfl, ?_⟩; have n0_ := Aside0.mk (Kd.R_below (by (with_reducible repeat (first | apply Kd.R_alloc | apply Kd.R_drewN | apply Kd.R_drew)); exact HO389.out) hb); have n1_ := Aside0.mk (Kd.R_below (by (with_reducible repeat (first | apply Kd.R_alloc | apply Kd.R_drewN | apply Kd.R_drew)); exact HO401.out) hb); have n2_ := Aside0.mk (Kd.R_below (by (with_reducible repeat (first | apply Kd.R_alloc | apply Kd.R_drewN | apply Kd.R_drew)); exact HO404.out) hb); have n3_ := Aside0.mk (Kd.R_lower ho0 (below_size (by repeat (first | (with_reducible first | exact HB.out | apply below_alloc | apply pw_below_drewN | apply below_drew1 | refine below_set ?_ GE383.out | refine below_set ?_ GE395.out) | exact HB.out)))); have n4_ := Aside0.mk (blk_below (g := gb383) (o := .cells #[.int .i8 a2_0, .int .i8 a2_1, .int .i8 a2_2, .int .i8 a2_3] 44 (0, 0)) (by (with_reducible repeat (first | refine blk_drewN ?_ _ | refine blk_drew ?_ | refine blk_alloc ?_ _)); exact BK383.out) hb); have n5_ := Aside0.mk (blk_below (g := gb395) (o := .cells #[.int .i64 1, .int .i64 t391, .int .i64 t392, .int .i64 t393, .int .i64 t394] 26 (0, 0)) (by (with_reducible repeat (first | refine blk_drewN ?_ _ | refine blk_drew ?_ | refine blk_alloc ?_ _)); exact BK395.out) hb); have n6_ := Aside0.mk (below_step (by repeat (first | (with_reducible first | exact HB.out | apply below_alloc | apply pw_below_drewN | apply below_drew1 | refine below_set ?_ GE383.out | refine below_set ?_ GE395.out) | exact HB.out)) hb); clear HO389; clear HO401; clear HO404; clear BK383; clear BK395; clear HB; have HO389 := n0_; have HO401 := n1_; have HO404 := n2_; have HO410 := n3_; have BK383 := n4_; have BK395 := n5_; have HB := n6_; clear n0_ n1_ n2_ n3_ n4_ n5_ n6_; (try clear hb); (try clear hb2); (try clear hk); (try clear hi); (try clear ho0)))
            go_ret
            exact ⟨by first | rfl | (simp [errW_none, errW_some] <;> rfl) | (simp [*, errW_none, errW_some] <;> rfl), by repeat (first | (with_reducible first | exact HB.out | apply below_alloc | apply pw_below_drewN | apply below_drew1 | refine below_set ?_ GE383.out | refine below_set ?_ GE395.out) | exact HB.out)⟩
          · rw [if_neg c19] at H
            have c19b0 : (t406 == 0) = false := beq_eq_false_iff_ne.mpr c19
            have c19b1 : (t406 != 0) = true := bne_iff_ne.mpr c19
            obtain rfl := Option.some.inj H
            try go_wp2_with (first | ((with_reducible refine gate_callee (f := 16) rfl ?_); refine goesL_ (some 26) rfl rfl Try.func16 (by kernel_rfl) rfl #[.int .u8 a0, .slice A1 l1.length c1] rfl (by (try simp only [List.map_toArray, List.map_cons, List.map_nil]); first | done | rfl | (simp only [List.length_drop, List.length_take]; rfl)) ?_; (with_reducible refine (scarfjointlaw03_few.calls kj3 a0 _ _ l1 t386 t387 _ ?side1 ?side2 A13.out).mono ?_); (case side1 => repeat (first | exact (Kd.C_below HR1.out HB.out) | (with_reducible refine Kd.C_alloc ?_ _) | (with_reducible refine Kd.C_drewN ?_ _) | (with_reducible refine Kd.C_drew ?_))); (case side2 => exact HC1.out); rintro e w39 ⟨v388, rfl, ho0, hb⟩; refine ⟨_, rfl, ?_⟩; have n0_ := Aside0.mk (Kd.R_lower ho0 (below_size (by repeat (first | (with_reducible first | exact HB.out | apply below_alloc | apply pw_below_drewN | apply below_drew1 | refine below_set ?_ GE383.out) | exact HB.out)))); have n1_ := Aside0.mk (blk_below (g := gb383) (o := .cells #[.int .i8 a2_0, .int .i8 a2_1, .int .i8 a2_2, .int .i8 a2_3] 44 (0, 0)) (by (with_reducible repeat (first | refine blk_drewN ?_ _ | refine blk_drew ?_ | refine blk_alloc ?_ _)); exact BK383.out) hb); have n2_ := Aside0.mk (below_step (by repeat (first | (with_reducible first | exact HB.out | apply below_alloc | apply pw_below_drewN | apply below_drew1 | refine below_set ?_ GE383.out) | exact HB.out)) hb); clear BK383; clear HB; have HO389 := n0_; have BK383 := n1_; have HB := n2_; clear n0_ n1_ n2_; (try clear hb); (try clear hb2); (try clear hk); (try clear hi); (try clear ho0); have hcz40_0 : w39.cell? ⟨gb383, 0, none⟩ = some (.int .i8 a2_0) := (blk_cell BK383.out 0).trans rfl; have hcz40_1 : w39.cell? ⟨gb383, 1, none⟩ = some (.int .i8 a2_1) := (blk_cell BK383.out 1).trans rfl; have hcz40_2 : w39.cell? ⟨gb383, 2, none⟩ = some (.int .i8 a2_2) := (blk_cell BK383.out 2).trans rfl; have hcz40_3 : w39.cell? ⟨gb383, 3, none⟩ = some (.int .i8 a2_3) := (blk_cell BK383.out 3).trans rfl; have hfz40_0 := blk_frozen BK383.out 0; have hfz40_1 := blk_frozen BK383.out 1; have hfz40_2 := blk_frozen BK383.out 2; have hfz40_3 := blk_frozen BK383.out 3) | ((with_reducible refine gate_callee (f := 19) rfl ?_); refine goesL_ (some 31) rfl rfl Try.func19 (by kernel_rfl) rfl #[.int .i64 t386, .agg #[.int .i8 a2_0, .int .i8 a2_1, .int .i8 a2_2, .int .i8 a2_3]] rfl (by (try simp only [List.map_toArray, List.map_cons, List.map_nil]); first | done | rfl | (simp only [List.length_drop, List.length_take]; rfl)) ?_; (with_reducible refine (scarfjointref03_Made.calls t386 a2_0 a2_1 a2_2 a2_3 t390 t391 t392 t393 t394 _ A14.out).mono ?_); rintro e w41 ⟨rfl, hb⟩; refine ⟨_, rfl, ?_⟩; have n0_ := Aside0.mk (Kd.R_below (by (with_reducible repeat (first | apply Kd.R_alloc | apply Kd.R_drewN | apply Kd.R_drew)); exact HO389.out) hb); have n1_ := Aside0.mk (blk_below (g := gb383) (o := .cells #[.int .i8 a2_0, .int .i8 a2_1, .int .i8 a2_2, .int .i8 a2_3] 44 (0, 0)) (by (with_reducible repeat (first | refine blk_drewN ?_ _ | refine blk_drew ?_ | refine blk_alloc ?_ _)); exact BK383.out) hb); have n2_ := Aside0.mk (below_step (by repeat (first | (with_reducible first | exact HB.out | apply below_alloc | apply pw_below_drewN | apply below_drew1 | refine below_set ?_ GE383.out) | exact HB.out)) hb); clear HO389; clear BK383; clear HB; have HO389 := n0_; have BK383 := n1_; have HB := n2_; clear n0_ n1_ n2_; (try clear hb); (try clear hb2); (try clear hk); (try clear hi)) | ((with_reducible refine gate_dst (N := 9) rfl ?_); (try (refine gate_guard (by rfl) ?_; dsimp only)); refine box_event ?hg (N := 9) ?hd (cs := #[.int .i64 0, .int .i64 0, .int .i64 0, .int .i64 0, .int .i64 0]) (t := 26) ?hr ?_; (case hd => rfl); (case hg => rfl); (case hr => first | (go_simp; done) | (go_simp; rfl)); intro gb395 hg w42 hbox hb; have n0_ := Aside0.mk (Kd.R_below (Kd.R_elderB (by (with_reducible repeat (first | apply Kd.R_alloc | apply Kd.R_drewN | apply Kd.R_drew)); exact HO389.out) gb395 (Nat.le_of_eq hg.symm)) hb); have n1_ := Aside0.mk (blk_below (g := gb383) (o := .cells #[.int .i8 a2_0, .int .i8 a2_1, .int .i8 a2_2, .int .i8 a2_3] 44 (0, 0)) (by (with_reducible repeat (first | refine blk_drewN ?_ _ | refine blk_drew ?_ | refine blk_alloc ?_ _)); exact BK383.out) hb); have n2_ := Aside0.mk (below_step (by repeat (first | (with_reducible first | exact HB.out | apply below_alloc | apply pw_below_drewN | apply below_drew1 | refine below_set ?_ GE383.out) | exact HB.out)) hb); have n3_ := Aside0.mk (hbox); have n4_ := Aside0.mk ((by rw [hg]; exact (below_size (by repeat (first | (with_reducible first | exact HB.out | apply below_alloc | apply pw_below_drewN | apply below_drew1 | refine below_set ?_ GE383.out) | exact HB.out))) : w.heap.size ≤ gb395)); have n5_ := Aside0.mk ((by rw [hg]; exact (below_size (by repeat (first | (with_reducible first | exact HB.out | apply below_alloc | apply pw_below_drewN | apply below_drew1 | refine below_set ?_ GE383.out) | exact HB.out))) : w.heap.size ≤ gb395)); have n6_ := Aside0.mk ((by rw [hg]; exact Nat.ne_of_lt (blk_lt (g := gb383) (o := .cells #[.int .i8 a2_0, .int .i8 a2_1, .int .i8 a2_2, .int .i8 a2_3] 44 (0, 0)) (by (with_reducible repeat (first | refine blk_drewN ?_ _ | refine blk_drew ?_ | refine blk_alloc ?_ _)); exact BK383.out)) : gb383 ≠ gb395)); have n7_ := Aside0.mk ((by rw [hg]; exact Nat.ne_of_gt (blk_lt (g := gb383) (o := .cells #[.int .i8 a2_0, .int .i8 a2_1, .int .i8 a2_2, .int .i8 a2_3] 44 (0, 0)) (by (with_reducible repeat (first | refine blk_drewN ?_ _ | refine blk_drew ?_ | refine blk_alloc ?_ _)); exact BK383.out)) : gb395 ≠ gb383)); clear HO389; clear BK383; clear HB; have HO389 := n0_; have BK383 := n1_; have HB := n2_; have BK395 := n3_; have GW395 := n4_; have GE395 := n5_; have NB383_395 := n6_; have NB395_383 := n7_; clear n0_ n1_ n2_ n3_ n4_ n5_ n6_ n7_; clear hb hbox hg; have hnb43 := NB395_383.out; have hnc43 := NB383_395.out; have hcz44_0 : w42.cell? ⟨gb395, 0, none⟩ = some (.int .i64 0) := (blk_cell BK395.out 0).trans rfl; have hcz44_1 : w42.cell? ⟨gb395, 1, none⟩ = some (.int .i64 0) := (blk_cell BK395.out 1).trans rfl; have hcz44_2 : w42.cell? ⟨gb395, 2, none⟩ = some (.int .i64 0) := (blk_cell BK395.out 2).trans rfl; have hcz44_3 : w42.cell? ⟨gb395, 3, none⟩ = some (.int .i64 0) := (blk_cell BK395.out 3).trans rfl; have hcz44_4 : w42.cell? ⟨gb395, 4, none⟩ = some (.int .i64 0) := (blk_cell BK395.out 4).trans rfl; have hfz44_0 := blk_frozen BK395.out 0; have hfz44_1 := blk_frozen BK395.out 1; have hfz44_2 := blk_frozen BK395.out 2; have hfz44_3 := blk_frozen BK395.out 3; have hfz44_4 := blk_frozen BK395.out 4; obtain ⟨Ao45, co45, eo45⟩ := Kd.R_slice HO389.out; subst eo45))
            have n0_ : Aside0 (Kd.R k26 26 ((((((w42.setCell ⟨gb395, 0, none⟩ (.int .i64 t390)).setCell ⟨gb395, 1, none⟩ (.int .i64 t391)).setCell ⟨gb395, 2, none⟩ (.int .i64 t392)).setCell ⟨gb395, 3, none⟩ (.int .i64 t393)).setCell ⟨gb395, 4, none⟩ (.int .i64 t394)).setCell ⟨gb395, 0, none⟩ (.int .i64 1)) w.heap.size (fun k_ => k_ ≠ gb395) (.slice Ao45 t387.length co45) t387) := ⟨by (with_reducible repeat (first | apply Kd.R_alloc | apply Kd.R_drewN | apply Kd.R_drew)); exact Kd.R_mono (Kd.R_far (p := ⟨gb395, 0, none⟩) (Kd.R_far (p := ⟨gb395, 4, none⟩) (Kd.R_far (p := ⟨gb395, 3, none⟩) (Kd.R_far (p := ⟨gb395, 2, none⟩) (Kd.R_far (p := ⟨gb395, 1, none⟩) (Kd.R_far (p := ⟨gb395, 0, none⟩) (Kd.R_mono HO389.out (fun k_ hk => (⟨hk, hk.2⟩ : _ ∧ k_ ≠ gb395))) (fun _ hk => hk.2) (.int .i64 t390)) (fun _ hk => hk.2) (.int .i64 t391)) (fun _ hk => hk.2) (.int .i64 t392)) (fun _ hk => hk.2) (.int .i64 t393)) (fun _ hk => hk.2) (.int .i64 t394)) (fun _ hk => hk.2) (.int .i64 1)) (fun _ hk => hk.1.2)⟩
            have n1_ : Aside0 (((((((w42.setCell ⟨gb395, 0, none⟩ (.int .i64 t390)).setCell ⟨gb395, 1, none⟩ (.int .i64 t391)).setCell ⟨gb395, 2, none⟩ (.int .i64 t392)).setCell ⟨gb395, 3, none⟩ (.int .i64 t393)).setCell ⟨gb395, 4, none⟩ (.int .i64 t394)).setCell ⟨gb395, 0, none⟩ (.int .i64 1)).heap[gb383]? = some (.cells #[.int .i8 a2_0, .int .i8 a2_1, .int .i8 a2_2, .int .i8 a2_3] 44 (0, 0))) := ⟨by (with_reducible repeat (first | refine blk_drewN ?_ _ | refine blk_drew ?_ | refine blk_alloc ?_ _)); refine blk_far ?_ NB383_395.out _; (with_reducible repeat (first | refine blk_drewN ?_ _ | refine blk_drew ?_ | refine blk_alloc ?_ _)); refine blk_far ?_ NB383_395.out _; (with_reducible repeat (first | refine blk_drewN ?_ _ | refine blk_drew ?_ | refine blk_alloc ?_ _)); refine blk_far ?_ NB383_395.out _; (with_reducible repeat (first | refine blk_drewN ?_ _ | refine blk_drew ?_ | refine blk_alloc ?_ _)); refine blk_far ?_ NB383_395.out _; (with_reducible repeat (first | refine blk_drewN ?_ _ | refine blk_drew ?_ | refine blk_alloc ?_ _)); refine blk_far ?_ NB383_395.out _; (with_reducible repeat (first | refine blk_drewN ?_ _ | refine blk_drew ?_ | refine blk_alloc ?_ _)); refine blk_far ?_ NB383_395.out _; (with_reducible repeat (first | refine blk_drewN ?_ _ | refine blk_drew ?_ | refine blk_alloc ?_ _)); exact BK383.out⟩
            have n2_ : Aside0 (((((((w42.setCell ⟨gb395, 0, none⟩ (.int .i64 t390)).setCell ⟨gb395, 1, none⟩ (.int .i64 t391)).setCell ⟨gb395, 2, none⟩ (.int .i64 t392)).setCell ⟨gb395, 3, none⟩ (.int .i64 t393)).setCell ⟨gb395, 4, none⟩ (.int .i64 t394)).setCell ⟨gb395, 0, none⟩ (.int .i64 1)).heap[gb395]? = some (.cells #[.int .i64 1, .int .i64 t391, .int .i64 t392, .int .i64 t393, .int .i64 t394] 26 (0, 0))) := ⟨by (with_reducible repeat (first | refine blk_drewN ?_ _ | refine blk_drew ?_ | refine blk_alloc ?_ _)); refine blk_put (cs := #[.int .i64 t390, .int .i64 t391, .int .i64 t392, .int .i64 t393, .int .i64 t394]) ?_ 0 _ rfl; (with_reducible repeat (first | refine blk_drewN ?_ _ | refine blk_drew ?_ | refine blk_alloc ?_ _)); refine blk_put (cs := #[.int .i64 t390, .int .i64 t391, .int .i64 t392, .int .i64 t393, .int .i64 0]) ?_ 4 _ rfl; (with_reducible repeat (first | refine blk_drewN ?_ _ | refine blk_drew ?_ | refine blk_alloc ?_ _)); refine blk_put (cs := #[.int .i64 t390, .int .i64 t391, .int .i64 t392, .int .i64 0, .int .i64 0]) ?_ 3 _ rfl; (with_reducible repeat (first | refine blk_drewN ?_ _ | refine blk_drew ?_ | refine blk_alloc ?_ _)); refine blk_put (cs := #[.int .i64 t390, .int .i64 t391, .int .i64 0, .int .i64 0, .int .i64 0]) ?_ 2 _ rfl; (with_reducible repeat (first | refine blk_drewN ?_ _ | refine blk_drew ?_ | refine blk_alloc ?_ _)); refine blk_put (cs := #[.int .i64 t390, .int .i64 0, .int .i64 0, .int .i64 0, .int .i64 0]) ?_ 1 _ rfl; (with_reducible repeat (first | refine blk_drewN ?_ _ | refine blk_drew ?_ | refine blk_alloc ?_ _)); refine blk_put (cs := #[.int .i64 0, .int .i64 0, .int .i64 0, .int .i64 0, .int .i64 0]) ?_ 0 _ rfl; (with_reducible repeat (first | refine blk_drewN ?_ _ | refine blk_drew ?_ | refine blk_alloc ?_ _)); exact BK395.out⟩
            have n3_ : Aside0 (Below w.heap.size w ((((((w42.setCell ⟨gb395, 0, none⟩ (.int .i64 t390)).setCell ⟨gb395, 1, none⟩ (.int .i64 t391)).setCell ⟨gb395, 2, none⟩ (.int .i64 t392)).setCell ⟨gb395, 3, none⟩ (.int .i64 t393)).setCell ⟨gb395, 4, none⟩ (.int .i64 t394)).setCell ⟨gb395, 0, none⟩ (.int .i64 1))) := ⟨by repeat (first | (with_reducible first | exact HB.out | apply below_alloc | apply pw_below_drewN | apply below_drew1 | refine below_set ?_ GE383.out | refine below_set ?_ GE395.out) | exact HB.out)⟩
            (try clear HO389)
            (try clear BK383)
            (try clear BK395)
            (try clear HB)
            generalize ((((((w42.setCell ⟨gb395, 0, none⟩ (.int .i64 t390)).setCell ⟨gb395, 1, none⟩ (.int .i64 t391)).setCell ⟨gb395, 2, none⟩ (.int .i64 t392)).setCell ⟨gb395, 3, none⟩ (.int .i64 t393)).setCell ⟨gb395, 4, none⟩ (.int .i64 t394)).setCell ⟨gb395, 0, none⟩ (.int .i64 1)) = w46 at n0_ n1_ n2_ n3_ ⊢
            have HO389 := n0_
            have BK383 := n1_
            have BK395 := n2_
            have HB := n3_
            clear n0_ n1_ n2_ n3_
            have n0_ := Aside0.mk (Kd.R_drew HO389.out)
            have n1_ := Aside0.mk (blk_drew BK383.out)
            have n2_ := Aside0.mk (blk_drew BK395.out)
            have n3_ := Aside0.mk (below_drew1 HB.out)
            clear HO389
            clear BK383
            clear BK395
            clear HB
            have HO389 := n0_
            have BK383 := n1_
            have BK395 := n2_
            have HB := n3_
            clear n0_ n1_ n2_ n3_
            refine start_ (n := 16) (S := fun w' => w'.cell? ⟨gb395, 0, none⟩ = some (.int .i64 1) ∧ w'.cell? ⟨gb395, 1, none⟩ = some (.int .i64 t391) ∧ w'.cell? ⟨gb395, 2, none⟩ = some (.int .i64 t392) ∧ w'.cell? ⟨gb395, 3, none⟩ = some (.int .i64 t393) ∧ w'.cell? ⟨gb395, 4, none⟩ = some (.int .i64 t394)) (ds := []) #[false, false, false, false, false, false, false, false, false, false, false, false, false, false, false, false] (by kernel_rfl) rfl rfl ⟨(blk_cell BK395.out 0).trans rfl, (blk_cell BK395.out 1).trans rfl, (blk_cell BK395.out 2).trans rfl, (blk_cell BK395.out 3).trans rfl, (blk_cell BK395.out 4).trans rfl⟩ (fun hHeld => ?_); refine with_tabW scarfjointlaw03_DifferenceOpposite.tab6 scarfjointlaw03_DifferenceOpposite.bits6 (fun HT_ HW_ => ?_)
            generalize w46.drew = w47 at HO389 BK383 BK395 HB hHeld ⊢
            refine pure_ (i := 0) (N := some 33) (v := ?_) (a' := ?_) #[true, false, false, false, false, false, false, false, false, false, false, false, false, false, false, false] rfl rfl (any_of HT_.out (by kernel_rfl)) (fun _ _ _ h => h) (Or.inl ⟨by rfl, ?_⟩) ?_ ?_
            rotate_left
            · intro w'
              go_simp
              with_reducible rfl
            rotate_left
            · simp only [Act.put, List.setIfInBounds_toArray, List.set_cons_zero, List.set_cons_succ, i64_w, i32_w]
              rfl
            refine pure_ (i := 2) (N := some 35) (v := ?_) (a' := ?_) #[true, false, true, false, false, false, false, false, false, false, false, false, false, false, false, false] rfl rfl (any_of HT_.out (by kernel_rfl)) (fun _ _ _ h => h) (Or.inl ⟨by rfl, ?_⟩) ?_ ?_
            rotate_left
            · intro w'
              go_simp
              with_reducible rfl
            rotate_left
            · simp only [Act.put, List.setIfInBounds_toArray, List.set_cons_zero, List.set_cons_succ, i64_w, i32_w]
              rfl
            refine pure_ (i := 3) (N := some 36) (v := ?_) (a' := ?_) #[true, false, true, true, false, false, false, false, false, false, false, false, false, false, false, false] rfl rfl (any_of HT_.out (by kernel_rfl)) (fun _ _ _ h => h) (Or.inl ⟨by rfl, ?_⟩) ?_ ?_
            rotate_left
            · intro w'
              go_simp
              with_reducible rfl
            rotate_left
            · simp only [Act.put, List.setIfInBounds_toArray, List.set_cons_zero, List.set_cons_succ, i64_w, i32_w]
              rfl
            refine pure_ (i := 5) (N := some 38) (v := ?_) (a' := ?_) #[true, false, true, true, false, true, false, false, false, false, false, false, false, false, false, false] rfl rfl (any_of HT_.out (by kernel_rfl)) (fun _ _ _ h => h) (Or.inl ⟨by rfl, ?_⟩) ?_ ?_
            rotate_left
            · intro w'
              go_simp
              with_reducible rfl
            rotate_left
            · simp only [Act.put, List.setIfInBounds_toArray, List.set_cons_zero, List.set_cons_succ, i64_w, i32_w]
              rfl
            refine pure_ (i := 6) (N := some 39) (v := ?_) (a' := ?_) #[true, false, true, true, false, true, true, false, false, false, false, false, false, false, false, false] rfl rfl (any_of HT_.out (by kernel_rfl)) (fun _ _ _ h => h) (Or.inl ⟨by rfl, ?_⟩) ?_ ?_
            rotate_left
            · intro w'
              go_simp
              with_reducible rfl
            rotate_left
            · simp only [Act.put, List.setIfInBounds_toArray, List.set_cons_zero, List.set_cons_succ, i64_w, i32_w]
              rfl
            refine pure_ (i := 10) (N := some 43) (v := ?_) (a' := ?_) #[true, false, true, true, false, true, true, false, false, false, true, false, false, false, false, false] rfl rfl (any_of HT_.out (by kernel_rfl)) (fun _ _ _ h => h) (Or.inl ⟨by rfl, ?_⟩) ?_ ?_
            rotate_left
            · intro w'
              go_simp
              with_reducible rfl
            rotate_left
            · simp only [Act.put, List.setIfInBounds_toArray, List.set_cons_zero, List.set_cons_succ, i64_w, i32_w]
              rfl
            refine take_ (i := 4) (N := some 37) (v := ?_) (a' := ?_) #[true, false, true, true, true, true, true, false, false, false, true, false, false, false, false, false] rfl rfl (take_ofW HT_.out HW_.out (by kernel_rfl)) (fun _ _ _ h => h) (Or.inl ⟨by rfl, ?_⟩) hHeld ?_ ?_
            rotate_left
            · rintro w' ⟨s0, s1, s2, s3, s4⟩
              go_simp
              with_reducible rfl
            rotate_left
            · simp only [Act.put, List.setIfInBounds_toArray, List.set_cons_zero, List.set_cons_succ, i64_w, i32_w]
              rfl
            refine take_ (i := 7) (N := some 40) (v := ?_) (a' := ?_) #[true, false, true, true, true, true, true, true, false, false, true, false, false, false, false, false] rfl rfl (take_ofW HT_.out HW_.out (by kernel_rfl)) (fun _ _ _ h => h) (Or.inl ⟨by rfl, ?_⟩) hHeld ?_ ?_
            rotate_left
            · rintro w' ⟨s0, s1, s2, s3, s4⟩
              go_simp
              with_reducible rfl
            rotate_left
            · simp only [Act.put, List.setIfInBounds_toArray, List.set_cons_zero, List.set_cons_succ, i64_w, i32_w]
              rfl
            refine pure_ (i := 8) (N := some 41) (v := ?_) (a' := ?_) #[true, false, true, true, true, true, true, true, true, false, true, false, false, false, false, false] rfl rfl (any_of HT_.out (by kernel_rfl)) (fun _ _ _ h => h) (Or.inl ⟨by rfl, ?_⟩) ?_ ?_
            rotate_left
            · intro w'
              go_simp
              with_reducible rfl
            rotate_left
            · simp only [Act.put, List.setIfInBounds_toArray, List.set_cons_zero, List.set_cons_succ, i64_w, i32_w]
              rfl
            refine pure_ (i := 9) (N := some 42) (v := ?_) (a' := ?_) #[true, false, true, true, true, true, true, true, true, true, true, false, false, false, false, false] rfl rfl (any_of HT_.out (by kernel_rfl)) (fun _ _ _ h => h) (Or.inl ⟨by rfl, ?_⟩) ?_ ?_
            rotate_left
            · intro w'
              go_simp
              with_reducible rfl
            rotate_left
            · simp only [Act.put, List.setIfInBounds_toArray, List.set_cons_zero, List.set_cons_succ, i64_w, i32_w]
              rfl
            refine take_ (i := 11) (N := some 44) (v := ?_) (a' := ?_) #[true, false, true, true, true, true, true, true, true, true, true, true, false, false, false, false] rfl rfl (take_ofW HT_.out HW_.out (by kernel_rfl)) (fun _ _ _ h => h) (Or.inl ⟨by rfl, ?_⟩) hHeld ?_ ?_
            rotate_left
            · rintro w' ⟨s0, s1, s2, s3, s4⟩
              go_simp
              with_reducible rfl
            rotate_left
            · simp only [Act.put, List.setIfInBounds_toArray, List.set_cons_zero, List.set_cons_succ, i64_w, i32_w]
              rfl
            refine pure_ (i := 12) (N := some 45) (v := ?_) (a' := ?_) #[true, false, true, true, true, true, true, true, true, true, true, true, true, false, false, false] rfl rfl (any_of HT_.out (by kernel_rfl)) (fun _ _ _ h => h) (Or.inl ⟨by rfl, ?_⟩) ?_ ?_
            rotate_left
            · intro w'
              go_simp
              with_reducible rfl
            rotate_left
            · simp only [Act.put, List.setIfInBounds_toArray, List.set_cons_zero, List.set_cons_succ, i64_w, i32_w]
              rfl
            refine join_ (σ := Value × Value) 2 #[true, true, true, true, true, true, true, true, true, true, true, true, true, true, false, false] (fun s_ => [(34, s_.1), (46, s_.2)]) (fun s_ w' => (w'.cell? ⟨gb395, 0, none⟩ = some (.int .i64 1) ∧ w'.cell? ⟨gb395, 1, none⟩ = some (.int .i64 t391) ∧ w'.cell? ⟨gb395, 2, none⟩ = some (.int .i64 t392) ∧ w'.cell? ⟨gb395, 3, none⟩ = some (.int .i64 t393) ∧ w'.cell? ⟨gb395, 4, none⟩ = some (.int .i64 t394)) ∧ (Kd.R k26 26 w' w.heap.size (fun k_ => some k_ ≠ (s_.1 : Value).ownBlock ∧ some k_ ≠ (s_.2 : Value).ownBlock ∧ k_ ≠ gb395) (.slice Ao45 t387.length co45) t387) ∧ (Kd.R k26 26 w' w.heap.size (fun k_ => some k_ ≠ (.slice Ao45 t387.length co45 : Value).ownBlock ∧ some k_ ≠ (s_.2 : Value).ownBlock ∧ k_ ≠ gb395) s_.1 t396) ∧ (Kd.R k26 26 w' w.heap.size (fun k_ => some k_ ≠ (.slice Ao45 t387.length co45 : Value).ownBlock ∧ some k_ ≠ (s_.1 : Value).ownBlock ∧ k_ ≠ gb395) s_.2 y399) ∧ (w'.heap[gb383]? = some (.cells #[.int .i8 a2_0, .int .i8 a2_1, .int .i8 a2_2, .int .i8 a2_3] 44 (0, 0))) ∧ (w'.heap[gb395]? = some (.cells #[.int .i64 1, .int .i64 t391, .int .i64 t392, .int .i64 t393, .int .i64 t394] 26 (0, 0))) ∧ (Below w.heap.size w w')) ?_ ?_
            rotate_left
            · intro hCont
              refine two_ (i := 1) (j := 13) (Ni := some 34) (Nj := some 46) #[true, true, true, true, true, true, true, true, true, true, true, true, true, false, false, false] #[true, false, true, true, true, true, true, true, true, true, true, true, true, true, false, false] rfl rfl rfl rfl (two_of HT_.out (by kernel_rfl)) (by decide) (by decide) (fun K hK => ?_) (fun K hK => ?_)
              · skip
                refine goes_ Try.func14 (by kernel_rfl) rfl #[.slice Ao45 t387.length co45] (by rfl) rfl rfl (by (try simp only [List.map_toArray, List.map_cons, List.map_nil]); first | done | rfl | (simp only [List.length_drop, List.length_take]; rfl)) ?_
                with_reducible refine (api_Test_14.calls _ _ t387 t396 _ ?side1 ?side2 A15.out).mono ?_
                (case side1 => repeat (first | exact (Kd.R_reads' HO389.out).2.2 | (with_reducible refine Kd.C_alloc ?_ _) | (with_reducible refine Kd.C_drewN ?_ _) | (with_reducible refine Kd.C_drew ?_)))
                (case side2 => exact (Kd.R_reads' HO389.out).2.1)
                rintro e w48 ⟨v397, rfl, ho0, hb⟩
                refine ⟨_, rfl, ?_⟩
                have n0_ := Aside0.mk (Kd.R_elder' (by (with_reducible repeat (first | apply Kd.R_alloc | apply Kd.R_drewN | apply Kd.R_drew)); exact HO389.out) (Kd.R_base ho0) hb)
                have n1_ := Aside0.mk (Kd.R_lower (Kd.R_newB (Kd.R_new' ho0 (Kd.R_lt (by (with_reducible repeat (first | apply Kd.R_alloc | apply Kd.R_drewN | apply Kd.R_drew)); exact HO389.out))) (g := gb395) (o := .cells #[.int .i64 1, .int .i64 t391, .int .i64 t392, .int .i64 t393, .int .i64 t394] 26 (0, 0)) (by (with_reducible repeat (first | refine blk_drewN ?_ _ | refine blk_drew ?_ | refine blk_alloc ?_ _)); exact BK395.out)) (below_size (by repeat (first | (with_reducible first | exact HB.out | apply below_alloc | apply pw_below_drewN | apply below_drew1 | refine below_set ?_ GE383.out | refine below_set ?_ GE395.out) | exact HB.out))))
                have n2_ := Aside0.mk (blk_below (g := gb383) (o := .cells #[.int .i8 a2_0, .int .i8 a2_1, .int .i8 a2_2, .int .i8 a2_3] 44 (0, 0)) (by (with_reducible repeat (first | refine blk_drewN ?_ _ | refine blk_drew ?_ | refine blk_alloc ?_ _)); exact BK383.out) hb)
                have n3_ := Aside0.mk (blk_below (g := gb395) (o := .cells #[.int .i64 1, .int .i64 t391, .int .i64 t392, .int .i64 t393, .int .i64 t394] 26 (0, 0)) (by (with_reducible repeat (first | refine blk_drewN ?_ _ | refine blk_drew ?_ | refine blk_alloc ?_ _)); exact BK395.out) hb)
                have n4_ := Aside0.mk (below_step (by repeat (first | (with_reducible first | exact HB.out | apply below_alloc | apply pw_below_drewN | apply below_drew1 | refine below_set ?_ GE383.out | refine below_set ?_ GE395.out) | exact HB.out)) hb)
                clear HO389
                clear BK383
                clear BK395
                clear HB
                have HO389 := n0_
                have HO398 := n1_
                have BK383 := n2_
                have BK395 := n3_
                have HB := n4_
                clear n0_ n1_ n2_ n3_ n4_
                (try clear hb)
                (try clear hb2)
                (try clear hk)
                (try clear hi)
                (try clear ho0)
                refine hK.out _ _ ⟨(blk_cell BK395.out 0).trans rfl, (blk_cell BK395.out 1).trans rfl, (blk_cell BK395.out 2).trans rfl, (blk_cell BK395.out 3).trans rfl, (blk_cell BK395.out 4).trans rfl⟩ (fun hHeld => ?_)
                clear hK K
                refine norm_ (a' := ?_) ?_ ?_
                rotate_left
                · show Act.put _ (some 34) _ = _
                  simp only [Act.put, List.setIfInBounds_toArray, List.set_cons_zero, List.set_cons_succ, i64_w, i32_w]
                  rfl
                refine one_ (i := 13) (N := some 46) #[true, true, true, true, true, true, true, true, true, true, true, true, true, true, false, false] rfl rfl (one_of HT_.out (by kernel_rfl)) (by decide) (fun K hK => ?_)
                refine Kd.R_lit_step k26 _ 26 ?hg (N := 46) ?hd (xs := ([(⟨1, (⟨t393, wrap64 (t394 + 1)⟩ : S24), (⟨t391, t392⟩ : S24)⟩ : S26)] : List (S26))) (inner := [.int .i64 1, .int .i64 t393, .int .i64 (wrap64 (t394 + 1)), .int .i64 t391, .int .i64 t392]) (ok := fun _ => True) (okp := fun _ => True) ?hr ?hp (fun _ hk => hk) trivial (Below.refl _ _) (Nat.le_refl _) (by simp) ?_; (case hd => rfl); (case hg => rfl); (case hr => first | (go_simp; done) | (go_simp; rfl)); (case hp => exact (Reps.c5 (show Kd.M k26 _ _ _ (⟨1, (⟨t393, wrap64 (t394 + 1)⟩ : S24), (⟨t391, t392⟩ : S24)⟩ : S26) [.int .i64 1, .int .i64 t393, .int .i64 (wrap64 (t394 + 1)), .int .i64 t391, .int .i64 t392] from (k26_mkM _ _ _ (⟨1, (⟨t393, wrap64 (t394 + 1)⟩ : S24), (⟨t391, t392⟩ : S24)⟩ : S26) )) (Reps.none _ _)))
                intro v400 w49 ho50 hb hg_ hnew_
                clear hg_ hnew_
                (first | rw [← Ny399.out] at ho50 | (simp only [Int.reduceToNat] at ho50; rw [← Ny399.out] at ho50))
                have n0_ := Aside0.mk (Kd.R_elder' (by (with_reducible repeat (first | apply Kd.R_alloc | apply Kd.R_drewN | apply Kd.R_drew)); exact HO389.out) (Kd.R_base ho50) hb)
                have n1_ := Aside0.mk (Kd.R_elder' (by (with_reducible repeat (first | apply Kd.R_alloc | apply Kd.R_drewN | apply Kd.R_drew)); exact HO398.out) (Kd.R_base ho50) hb)
                have n2_ := Aside0.mk (Kd.R_lower (Kd.R_newB (Kd.R_new' (Kd.R_new' ho50 (Kd.R_lt (by (with_reducible repeat (first | apply Kd.R_alloc | apply Kd.R_drewN | apply Kd.R_drew)); exact HO389.out))) (Kd.R_lt (by (with_reducible repeat (first | apply Kd.R_alloc | apply Kd.R_drewN | apply Kd.R_drew)); exact HO398.out))) (g := gb395) (o := .cells #[.int .i64 1, .int .i64 t391, .int .i64 t392, .int .i64 t393, .int .i64 t394] 26 (0, 0)) (by (with_reducible repeat (first | refine blk_drewN ?_ _ | refine blk_drew ?_ | refine blk_alloc ?_ _)); exact BK395.out)) (below_size (by repeat (first | (with_reducible first | exact HB.out | apply below_alloc | apply pw_below_drewN | apply below_drew1 | refine below_set ?_ GE383.out | refine below_set ?_ GE395.out) | exact HB.out))))
                have n3_ := Aside0.mk (blk_below (g := gb383) (o := .cells #[.int .i8 a2_0, .int .i8 a2_1, .int .i8 a2_2, .int .i8 a2_3] 44 (0, 0)) (by (with_reducible repeat (first | refine blk_drewN ?_ _ | refine blk_drew ?_ | refine blk_alloc ?_ _)); exact BK383.out) hb)
                have n4_ := Aside0.mk (blk_below (g := gb395) (o := .cells #[.int .i64 1, .int .i64 t391, .int .i64 t392, .int .i64 t393, .int .i64 t394] 26 (0, 0)) (by (with_reducible repeat (first | refine blk_drewN ?_ _ | refine blk_drew ?_ | refine blk_alloc ?_ _)); exact BK395.out) hb)
                have n5_ := Aside0.mk (below_step (by repeat (first | (with_reducible first | exact HB.out | apply below_alloc | apply pw_below_drewN | apply below_drew1 | refine below_set ?_ GE383.out | refine below_set ?_ GE395.out) | exact HB.out)) hb)
                clear HO389
                clear HO398
                clear BK383
                clear BK395
                clear HB
                have HO389 := n0_
                have HO398 := n1_
                have HO401 := n2_
                have BK383 := n3_
                have BK395 := n4_
                have HB := n5_
                clear n0_ n1_ n2_ n3_ n4_ n5_
                clear hb ho50
                refine hK.out _ _ ⟨(blk_cell BK395.out 0).trans rfl, (blk_cell BK395.out 1).trans rfl, (blk_cell BK395.out 2).trans rfl, (blk_cell BK395.out 3).trans rfl, (blk_cell BK395.out 4).trans rfl⟩ (fun hHeld => ?_)
                clear hK K
                refine norm_ (a' := ?_) ?_ ?_
                rotate_left
                · show Act.put _ (some 46) _ = _
                  simp only [Act.put, List.setIfInBounds_toArray, List.set_cons_zero, List.set_cons_succ, i64_w, i32_w]
                  rfl
                exact norm_ (by simp only [putAll, Act.put, List.setIfInBounds_toArray, List.set_cons_zero, List.set_cons_succ]) (hCont (v397, v400) _ ⟨hHeld, (by (with_reducible repeat (first | apply Kd.R_alloc | apply Kd.R_drewN | apply Kd.R_drew)); exact Kd.R_mono HO389.out (fun _ hk => ⟨hk.1.2, ⟨hk.2, hk.1.1⟩⟩)), (by (with_reducible repeat (first | apply Kd.R_alloc | apply Kd.R_drewN | apply Kd.R_drew)); exact Kd.R_mono HO398.out (fun _ hk => ⟨hk.1.1.2, ⟨hk.2, hk.1.2⟩⟩)), (by (with_reducible repeat (first | apply Kd.R_alloc | apply Kd.R_drewN | apply Kd.R_drew)); exact Kd.R_mono HO401.out (fun _ hk => ⟨hk.1.1.2, ⟨hk.1.2, hk.2⟩⟩)), (by (with_reducible repeat (first | refine blk_drewN ?_ _ | refine blk_drew ?_ | refine blk_alloc ?_ _)); exact BK383.out), (by (with_reducible repeat (first | refine blk_drewN ?_ _ | refine blk_drew ?_ | refine blk_alloc ?_ _)); exact BK395.out), (by repeat (first | (with_reducible first | exact HB.out | apply below_alloc | apply pw_below_drewN | apply below_drew1 | refine below_set ?_ GE383.out | refine below_set ?_ GE395.out) | exact HB.out))⟩)
              · skip
                refine Kd.R_lit_step k26 _ 26 ?hg (N := 46) ?hd (xs := ([(⟨1, (⟨t393, wrap64 (t394 + 1)⟩ : S24), (⟨t391, t392⟩ : S24)⟩ : S26)] : List (S26))) (inner := [.int .i64 1, .int .i64 t393, .int .i64 (wrap64 (t394 + 1)), .int .i64 t391, .int .i64 t392]) (ok := fun _ => True) (okp := fun _ => True) ?hr ?hp (fun _ hk => hk) trivial (Below.refl _ _) (Nat.le_refl _) (by simp) ?_; (case hd => rfl); (case hg => rfl); (case hr => first | (go_simp; done) | (go_simp; rfl)); (case hp => exact (Reps.c5 (show Kd.M k26 _ _ _ (⟨1, (⟨t393, wrap64 (t394 + 1)⟩ : S24), (⟨t391, t392⟩ : S24)⟩ : S26) [.int .i64 1, .int .i64 t393, .int .i64 (wrap64 (t394 + 1)), .int .i64 t391, .int .i64 t392] from (k26_mkM _ _ _ (⟨1, (⟨t393, wrap64 (t394 + 1)⟩ : S24), (⟨t391, t392⟩ : S24)⟩ : S26) )) (Reps.none _ _)))
                intro v400 w48 ho49 hb hg_ hnew_
                clear hg_ hnew_
                (first | rw [← Ny399.out] at ho49 | (simp only [Int.reduceToNat] at ho49; rw [← Ny399.out] at ho49))
                have n0_ := Aside0.mk (Kd.R_elder' (by (with_reducible repeat (first | apply Kd.R_alloc | apply Kd.R_drewN | apply Kd.R_drew)); exact HO389.out) (Kd.R_base ho49) hb)
                have n1_ := Aside0.mk (Kd.R_lower (Kd.R_newB (Kd.R_new' ho49 (Kd.R_lt (by (with_reducible repeat (first | apply Kd.R_alloc | apply Kd.R_drewN | apply Kd.R_drew)); exact HO389.out))) (g := gb395) (o := .cells #[.int .i64 1, .int .i64 t391, .int .i64 t392, .int .i64 t393, .int .i64 t394] 26 (0, 0)) (by (with_reducible repeat (first | refine blk_drewN ?_ _ | refine blk_drew ?_ | refine blk_alloc ?_ _)); exact BK395.out)) (below_size (by repeat (first | (with_reducible first | exact HB.out | apply below_alloc | apply pw_below_drewN | apply below_drew1 | refine below_set ?_ GE383.out | refine below_set ?_ GE395.out) | exact HB.out))))
                have n2_ := Aside0.mk (blk_below (g := gb383) (o := .cells #[.int .i8 a2_0, .int .i8 a2_1, .int .i8 a2_2, .int .i8 a2_3] 44 (0, 0)) (by (with_reducible repeat (first | refine blk_drewN ?_ _ | refine blk_drew ?_ | refine blk_alloc ?_ _)); exact BK383.out) hb)
                have n3_ := Aside0.mk (blk_below (g := gb395) (o := .cells #[.int .i64 1, .int .i64 t391, .int .i64 t392, .int .i64 t393, .int .i64 t394] 26 (0, 0)) (by (with_reducible repeat (first | refine blk_drewN ?_ _ | refine blk_drew ?_ | refine blk_alloc ?_ _)); exact BK395.out) hb)
                have n4_ := Aside0.mk (below_step (by repeat (first | (with_reducible first | exact HB.out | apply below_alloc | apply pw_below_drewN | apply below_drew1 | refine below_set ?_ GE383.out | refine below_set ?_ GE395.out) | exact HB.out)) hb)
                clear HO389
                clear BK383
                clear BK395
                clear HB
                have HO389 := n0_
                have HO401 := n1_
                have BK383 := n2_
                have BK395 := n3_
                have HB := n4_
                clear n0_ n1_ n2_ n3_ n4_
                clear hb ho49
                refine hK.out _ _ ⟨(blk_cell BK395.out 0).trans rfl, (blk_cell BK395.out 1).trans rfl, (blk_cell BK395.out 2).trans rfl, (blk_cell BK395.out 3).trans rfl, (blk_cell BK395.out 4).trans rfl⟩ (fun hHeld => ?_)
                clear hK K
                refine norm_ (a' := ?_) ?_ ?_
                rotate_left
                · show Act.put _ (some 46) _ = _
                  simp only [Act.put, List.setIfInBounds_toArray, List.set_cons_zero, List.set_cons_succ, i64_w, i32_w]
                  rfl
                refine one_ (i := 1) (N := some 34) #[true, true, true, true, true, true, true, true, true, true, true, true, true, true, false, false] rfl rfl (one_of HT_.out (by kernel_rfl)) (by decide) (fun K hK => ?_)
                refine goes_ Try.func14 (by kernel_rfl) rfl #[.slice Ao45 t387.length co45] (by rfl) rfl rfl (by (try simp only [List.map_toArray, List.map_cons, List.map_nil]); first | done | rfl | (simp only [List.length_drop, List.length_take]; rfl)) ?_
                with_reducible refine (api_Test_14.calls _ _ t387 t396 _ ?side1 ?side2 A15.out).mono ?_
                (case side1 => repeat (first | exact (Kd.R_reads' HO389.out).2.2 | (with_reducible refine Kd.C_alloc ?_ _) | (with_reducible refine Kd.C_drewN ?_ _) | (with_reducible refine Kd.C_drew ?_)))
                (case side2 => exact (Kd.R_reads' HO389.out).2.1)
                rintro e w50 ⟨v397, rfl, ho0, hb⟩
                refine ⟨_, rfl, ?_⟩
                have n0_ := Aside0.mk (Kd.R_elder' (by (with_reducible repeat (first | apply Kd.R_alloc | apply Kd.R_drewN | apply Kd.R_drew)); exact HO389.out) (Kd.R_base ho0) hb)
                have n1_ := Aside0.mk (Kd.R_elder' (by (with_reducible repeat (first | apply Kd.R_alloc | apply Kd.R_drewN | apply Kd.R_drew)); exact HO401.out) (Kd.R_base ho0) hb)
                have n2_ := Aside0.mk (Kd.R_lower (Kd.R_newB (Kd.R_new' (Kd.R_new' ho0 (Kd.R_lt (by (with_reducible repeat (first | apply Kd.R_alloc | apply Kd.R_drewN | apply Kd.R_drew)); exact HO389.out))) (Kd.R_lt (by (with_reducible repeat (first | apply Kd.R_alloc | apply Kd.R_drewN | apply Kd.R_drew)); exact HO401.out))) (g := gb395) (o := .cells #[.int .i64 1, .int .i64 t391, .int .i64 t392, .int .i64 t393, .int .i64 t394] 26 (0, 0)) (by (with_reducible repeat (first | refine blk_drewN ?_ _ | refine blk_drew ?_ | refine blk_alloc ?_ _)); exact BK395.out)) (below_size (by repeat (first | (with_reducible first | exact HB.out | apply below_alloc | apply pw_below_drewN | apply below_drew1 | refine below_set ?_ GE383.out | refine below_set ?_ GE395.out) | exact HB.out))))
                have n3_ := Aside0.mk (blk_below (g := gb383) (o := .cells #[.int .i8 a2_0, .int .i8 a2_1, .int .i8 a2_2, .int .i8 a2_3] 44 (0, 0)) (by (with_reducible repeat (first | refine blk_drewN ?_ _ | refine blk_drew ?_ | refine blk_alloc ?_ _)); exact BK383.out) hb)
                have n4_ := Aside0.mk (blk_below (g := gb395) (o := .cells #[.int .i64 1, .int .i64 t391, .int .i64 t392, .int .i64 t393, .int .i64 t394] 26 (0, 0)) (by (with_reducible repeat (first | refine blk_drewN ?_ _ | refine blk_drew ?_ | refine blk_alloc ?_ _)); exact BK395.out) hb)
                have n5_ := Aside0.mk (below_step (by repeat (first | (with_reducible first | exact HB.out | apply below_alloc | apply pw_below_drewN | apply below_drew1 | refine below_set ?_ GE383.out | refine below_set ?_ GE395.out) | exact HB.out)) hb)
                clear HO389
                clear HO401
                clear BK383
                clear BK395
                clear HB
                have HO389 := n0_
                have HO401 := n1_
                have HO398 := n2_
                have BK383 := n3_
                have BK395 := n4_
                have HB := n5_
                clear n0_ n1_ n2_ n3_ n4_ n5_
                (try clear hb)
                (try clear hb2)
                (try clear hk)
                (try clear hi)
                (try clear ho0)
                refine hK.out _ _ ⟨(blk_cell BK395.out 0).trans rfl, (blk_cell BK395.out 1).trans rfl, (blk_cell BK395.out 2).trans rfl, (blk_cell BK395.out 3).trans rfl, (blk_cell BK395.out 4).trans rfl⟩ (fun hHeld => ?_)
                clear hK K
                refine norm_ (a' := ?_) ?_ ?_
                rotate_left
                · show Act.put _ (some 34) _ = _
                  simp only [Act.put, List.setIfInBounds_toArray, List.set_cons_zero, List.set_cons_succ, i64_w, i32_w]
                  rfl
                exact norm_ (by simp only [putAll, Act.put, List.setIfInBounds_toArray, List.set_cons_zero, List.set_cons_succ]) (hCont (v397, v400) _ ⟨hHeld, (by (with_reducible repeat (first | apply Kd.R_alloc | apply Kd.R_drewN | apply Kd.R_drew)); exact Kd.R_mono HO389.out (fun _ hk => ⟨hk.2, ⟨hk.1.2, hk.1.1⟩⟩)), (by (with_reducible repeat (first | apply Kd.R_alloc | apply Kd.R_drewN | apply Kd.R_drew)); exact Kd.R_mono HO398.out (fun _ hk => ⟨hk.1.1.2, ⟨hk.1.2, hk.2⟩⟩)), (by (with_reducible repeat (first | apply Kd.R_alloc | apply Kd.R_drewN | apply Kd.R_drew)); exact Kd.R_mono HO401.out (fun _ hk => ⟨hk.1.1.2, ⟨hk.2, hk.1.2⟩⟩)), (by (with_reducible repeat (first | refine blk_drewN ?_ _ | refine blk_drew ?_ | refine blk_alloc ?_ _)); exact BK383.out), (by (with_reducible repeat (first | refine blk_drewN ?_ _ | refine blk_drew ?_ | refine blk_alloc ?_ _)); exact BK395.out), (by repeat (first | (with_reducible first | exact HB.out | apply below_alloc | apply pw_below_drewN | apply below_drew1 | refine below_set ?_ GE383.out | refine below_set ?_ GE395.out) | exact HB.out))⟩)
            rintro ⟨v397, v400⟩ w51 ⟨hS_, h0_, h1_, h2_, h3_, h4_, h5_⟩
            have n0_ : Aside0 (Kd.R k26 26 w51 w.heap.size (fun k_ => some k_ ≠ (v397 : Value).ownBlock ∧ some k_ ≠ (v400 : Value).ownBlock ∧ k_ ≠ gb395) (.slice Ao45 t387.length co45) t387) := ⟨h0_⟩
            have n1_ : Aside0 (Kd.R k26 26 w51 w.heap.size (fun k_ => some k_ ≠ (.slice Ao45 t387.length co45 : Value).ownBlock ∧ some k_ ≠ (v400 : Value).ownBlock ∧ k_ ≠ gb395) v397 t396) := ⟨h1_⟩
            have n2_ : Aside0 (Kd.R k26 26 w51 w.heap.size (fun k_ => some k_ ≠ (.slice Ao45 t387.length co45 : Value).ownBlock ∧ some k_ ≠ (v397 : Value).ownBlock ∧ k_ ≠ gb395) v400 y399) := ⟨h2_⟩
            have n3_ : Aside0 (w51.heap[gb383]? = some (.cells #[.int .i8 a2_0, .int .i8 a2_1, .int .i8 a2_2, .int .i8 a2_3] 44 (0, 0))) := ⟨h3_⟩
            have n4_ : Aside0 (w51.heap[gb395]? = some (.cells #[.int .i64 1, .int .i64 t391, .int .i64 t392, .int .i64 t393, .int .i64 t394] 26 (0, 0))) := ⟨h4_⟩
            have n5_ : Aside0 (Below w.heap.size w w51) := ⟨h5_⟩
            clear HO389
            clear BK383
            clear BK395
            clear HB
            clear h0_ h1_ h2_ h3_ h4_ h5_
            have HO389 := n0_
            have HO398 := n1_
            have HO401 := n2_
            have BK383 := n3_
            have BK395 := n4_
            have HB := n5_
            clear n0_ n1_ n2_ n3_ n4_ n5_
            have hHeld : w51.cell? ⟨gb395, 0, none⟩ = some (.int .i64 1) ∧ w51.cell? ⟨gb395, 1, none⟩ = some (.int .i64 t391) ∧ w51.cell? ⟨gb395, 2, none⟩ = some (.int .i64 t392) ∧ w51.cell? ⟨gb395, 3, none⟩ = some (.int .i64 t393) ∧ w51.cell? ⟨gb395, 4, none⟩ = some (.int .i64 t394) := hS_
            obtain ⟨Ao53, co53, eo53⟩ := Kd.R_slice HO401.out
            (first | subst eo53 | (injection eo53 with f1_ f2_ f3_; have f4_ := f1_.symm; have f5_ := f3_.symm; clear f1_ f2_ f3_; subst f4_; subst f5_))
            refine norm_ (a' := ?_) ?_ ?_
            rotate_left
            · simp only [putAll, Act.put, List.setIfInBounds_toArray, List.set_cons_zero, List.set_cons_succ]
              rfl
            refine one_ (i := 14) (N := some 47) #[true, true, true, true, true, true, true, true, true, true, true, true, true, true, true, false] rfl rfl (one_of HT_.out (by kernel_rfl)) (by decide) (fun K hK => ?_)
            refine Kd.R_append_rows_step k26 (w0 := w) w.heap.size (by rfl) (.tmp 34) (.tmp 46) 22 26 (.agg #[(.int .i64 0), (.int .i64 0), (.int .i64 0), (.int .i64 0), (.int .i64 0)]) 40 rfl Try.underlying22 info26 rfl (by decide) (by omega) v397 t396 y399 _ _ _ (fun k_ => some k_ ≠ (.slice Ao45 t387.length co45 : Value).ownBlock ∧ some k_ ≠ (.slice Ao53 y399.length co53 : Value).ownBlock ∧ k_ ≠ gb395) (fun _ => False) rfl rfl ?aO ?aR (fun _ _ h => h) (fun _ h => h.elim) ?aF ?aB ?aS ?aL ?_
            (case aR => repeat (first | exact (Kd.R_reads' HO401.out).2.2 | (with_reducible refine Kd.C_alloc ?_ _) | (with_reducible refine Kd.C_drewN ?_ _) | (with_reducible refine Kd.C_drew ?_)))
            (case aB => exact (by repeat (first | (with_reducible first | exact HB.out | apply below_alloc | apply pw_below_drewN | apply below_drew1 | refine below_set ?_ GE383.out | refine below_set ?_ GE395.out) | exact HB.out)))
            (case aF => exact (fun k_ hk => ⟨Kd.fresh' (Kd.R_lt (by (with_reducible repeat (first | apply Kd.R_alloc | apply Kd.R_drewN | apply Kd.R_drew)); exact HO389.out)) k_ hk, Kd.fresh' (Kd.R_lt (by (with_reducible repeat (first | apply Kd.R_alloc | apply Kd.R_drewN | apply Kd.R_drew)); exact HO401.out)) k_ hk, Kd.freshB (g := gb395) (o := .cells #[.int .i64 1, .int .i64 t391, .int .i64 t392, .int .i64 t393, .int .i64 t394] 26 (0, 0)) (by (with_reducible repeat (first | refine blk_drewN ?_ _ | refine blk_drew ?_ | refine blk_alloc ?_ _)); exact BK395.out) k_ hk⟩))
            (case aO => exact (by (with_reducible repeat (first | apply Kd.R_alloc | apply Kd.R_drewN | apply Kd.R_drew)); exact HO398.out))
            (case aS => exact (below_size (by repeat (first | (with_reducible first | exact HB.out | apply below_alloc | apply pw_below_drewN | apply below_drew1 | refine below_set ?_ GE383.out | refine below_set ?_ GE395.out) | exact HB.out))))
            (case aL => have := LMc16.out; omega)
            intro v403 w52 ho hb hg hat
            rw [← Ny402.out] at ho
            have n0_ := Aside0.mk (blk_grown (g := gb383) (o := .cells #[.int .i8 a2_0, .int .i8 a2_1, .int .i8 a2_2, .int .i8 a2_3] 44 (0, 0)) (by (with_reducible repeat (first | refine blk_drewN ?_ _ | refine blk_drew ?_ | refine blk_alloc ?_ _)); exact BK383.out) hg (Kd.R_ne HO398.out BK383.out (by decide)))
            have n1_ := Aside0.mk (Kd.R_after (ok := (fun k_ => some k_ ≠ (.slice Ao53 y399.length co53 : Value).ownBlock ∧ k_ ≠ gb395)) (by (with_reducible repeat (first | apply Kd.R_alloc | apply Kd.R_drewN | apply Kd.R_drew)); exact Kd.R_mono HO389.out (fun _ hk => ⟨⟨hk.2.1, hk.2.2⟩, hk.1⟩)) hg hat)
            have n2_ := Aside0.mk (blk_grown (g := gb395) (o := .cells #[.int .i64 1, .int .i64 t391, .int .i64 t392, .int .i64 t393, .int .i64 t394] 26 (0, 0)) (by (with_reducible repeat (first | refine blk_drewN ?_ _ | refine blk_drew ?_ | refine blk_alloc ?_ _)); exact BK395.out) hg (Kd.R_away HO398.out (fun _ hk => hk.2.2)))
            have n3_ := Aside0.mk (Kd.R_after (ok := (fun k_ => some k_ ≠ (.slice Ao45 t387.length co45 : Value).ownBlock ∧ k_ ≠ gb395)) (by (with_reducible repeat (first | apply Kd.R_alloc | apply Kd.R_drewN | apply Kd.R_drew)); exact Kd.R_mono HO401.out (fun _ hk => ⟨⟨hk.1, hk.2.2⟩, hk.2.1⟩)) hg hat)
            have n4_ := Aside0.mk (hb)
            have n5_ := Aside0.mk (ho)
            clear BK383
            clear HO389
            clear BK395
            clear HO401
            clear HB
            clear HO398
            have BK383 := n0_
            have HO389 := n1_
            have BK395 := n2_
            have HO401 := n3_
            have HB := n4_
            have HO404 := n5_
            clear n0_ n1_ n2_ n3_ n4_ n5_
            clear ho hb hg hat
            refine hK.out _ _ ⟨(blk_cell BK395.out 0).trans rfl, (blk_cell BK395.out 1).trans rfl, (blk_cell BK395.out 2).trans rfl, (blk_cell BK395.out 3).trans rfl, (blk_cell BK395.out 4).trans rfl⟩ (fun hHeld => ?_)
            clear hK K
            refine norm_ (a' := ?_) ?_ ?_
            rotate_left
            · show Act.put _ (some 47) _ = _
              simp only [Act.put, List.setIfInBounds_toArray, List.set_cons_zero, List.set_cons_succ, i64_w, i32_w]
              rfl
            refine pure_ (i := 15) (N := some 10) (v := ?_) (a' := ?_) #[true, true, true, true, true, true, true, true, true, true, true, true, true, true, true, true] rfl rfl (any_of HT_.out (by kernel_rfl)) (fun _ _ _ h => h) (Or.inl ⟨by rfl, ?_⟩) ?_ ?_
            rotate_left
            · intro w'
              go_simp
              with_reducible rfl
            rotate_left
            · simp only [Act.put, List.setIfInBounds_toArray, List.set_cons_zero, List.set_cons_succ, i64_w, i32_w]
              rfl
            refine done_ (done_of HT_.out (by kernel_rfl)) ?_
            have hcz54_0 : w52.cell? ⟨gb395, 0, none⟩ = some (.int .i64 1) := (blk_cell BK395.out 0).trans rfl
            have hcz54_1 : w52.cell? ⟨gb395, 1, none⟩ = some (.int .i64 t391) := (blk_cell BK395.out 1).trans rfl
            have hcz54_2 : w52.cell? ⟨gb395, 2, none⟩ = some (.int .i64 t392) := (blk_cell BK395.out 2).trans rfl
            have hcz54_3 : w52.cell? ⟨gb395, 3, none⟩ = some (.int .i64 t393) := (blk_cell BK395.out 3).trans rfl
            have hcz54_4 : w52.cell? ⟨gb395, 4, none⟩ = some (.int .i64 t394) := (blk_cell BK395.out 4).trans rfl
            have hfz54_0 := blk_frozen BK395.out 0
            have hfz54_1 := blk_frozen BK395.out 1
            have hfz54_2 := blk_frozen BK395.out 2
            have hfz54_3 := blk_frozen BK395.out 3
            have hfz54_4 := blk_frozen BK395.out 4
            try go_wp2_with (first | ((with_reducible refine gate_callee (f := 13) rfl ?_); refine goesL_ (some 52) rfl rfl Try.func13 (by kernel_rfl) rfl #[.int .i64 t386, .slice Ao45 t387.length co45, .agg #[.int .i64 1, .int .i64 t391, .int .i64 t392, .int .i64 t393, .int .i64 t394]] rfl (by (try simp only [List.map_toArray, List.map_cons, List.map_nil]); first | done | rfl | (simp only [List.length_drop, List.length_take]; rfl)) ?_; (with_reducible refine (difference_Implies.calls kj3 t386 _ _ t387 1 t391 t392 t393 t394 t405 t406 _ ?side1 ?side2 A17.out).mono ?_); (case side1 => repeat (first | exact (Kd.R_reads' HO389.out).2.2 | (with_reducible refine Kd.C_alloc ?_ _) | (with_reducible refine Kd.C_drewN ?_ _) | (with_reducible refine Kd.C_drew ?_))); (case side2 => exact (Kd.R_reads' HO389.out).2.1); rintro e w55 ⟨rfl, hb⟩; refine ⟨_, rfl, ?_⟩; have n0_ := Aside0.mk (Kd.R_below (by (with_reducible repeat (first | apply Kd.R_alloc | apply Kd.R_drewN | apply Kd.R_drew)); exact HO389.out) hb); have n1_ := Aside0.mk (Kd.R_below (by (with_reducible repeat (first | apply Kd.R_alloc | apply Kd.R_drewN | apply Kd.R_drew)); exact HO401.out) hb); have n2_ := Aside0.mk (Kd.R_below (by (with_reducible repeat (first | apply Kd.R_alloc | apply Kd.R_drewN | apply Kd.R_drew)); exact HO404.out) hb); have n3_ := Aside0.mk (blk_below (g := gb383) (o := .cells #[.int .i8 a2_0, .int .i8 a2_1, .int .i8 a2_2, .int .i8 a2_3] 44 (0, 0)) (by (with_reducible repeat (first | refine blk_drewN ?_ _ | refine blk_drew ?_ | refine blk_alloc ?_ _)); exact BK383.out) hb); have n4_ := Aside0.mk (blk_below (g := gb395) (o := .cells #[.int .i64 1, .int .i64 t391, .int .i64 t392, .int .i64 t393, .int .i64 t394] 26 (0, 0)) (by (with_reducible repeat (first | refine blk_drewN ?_ _ | refine blk_drew ?_ | refine blk_alloc ?_ _)); exact BK395.out) hb); have n5_ := Aside0.mk (below_step (by repeat (first | (with_reducible first | exact HB.out | apply below_alloc | apply pw_below_drewN | apply below_drew1 | refine below_set ?_ GE383.out | refine below_set ?_ GE395.out) | exact HB.out)) hb); clear HO389; clear HO401; clear HO404; clear BK383; clear BK395; clear HB; have HO389 := n0_; have HO401 := n1_; have HO404 := n2_; have BK383 := n3_; have BK395 := n4_; have HB := n5_; clear n0_ n1_ n2_ n3_ n4_ n5_; (try clear hb); (try clear hb2); (try clear hk); (try clear hi); obtain ⟨Ao56, co56, eo56⟩ := Kd.R_slice HO404.out; subst eo56) | ((with_reducible refine gate_callee (f := 17) rfl ?_); refine goesL_ (some 58) rfl rfl Try.func17 (by kernel_rfl) rfl #[.int .i64 t386, .slice Ao56 y402.length co56] rfl (by (try simp only [List.map_toArray, List.map_cons, List.map_nil]); first | done | rfl | (simp only [List.length_drop, List.length_take]; rfl)) ?_; (with_reducible refine (difference_Solve.calls kj3 t386 _ _ y402 t407 t408 _ ?side1 ?side2 A18.out).mono ?_); (case side1 => repeat (first | exact (Kd.R_reads' HO404.out).2.2 | (with_reducible refine Kd.C_alloc ?_ _) | (with_reducible refine Kd.C_drewN ?_ _) | (with_reducible refine Kd.C_drew ?_))); (case side2 => exact (Kd.R_reads' HO404.out).2.1); rintro e w57 ⟨v409, rfl, ho0, hb⟩; refine ⟨_, rfl, ?_⟩; have n0_ := Aside0.mk (Kd.R_below (by (with_reducible repeat (first | apply Kd.R_alloc | apply Kd.R_drewN | apply Kd.R_drew)); exact HO389.out) hb); have n1_ := Aside0.mk (Kd.R_below (by (with_reducible repeat (first | apply Kd.R_alloc | apply Kd.R_drewN | apply Kd.R_drew)); exact HO401.out) hb); have n2_ := Aside0.mk (Kd.R_below (by (with_reducible repeat (first | apply Kd.R_alloc | apply Kd.R_drewN | apply Kd.R_drew)); exact HO404.out) hb); have n3_ := Aside0.mk (Kd.R_lower ho0 (below_size (by repeat (first | (with_reducible first | exact HB.out | apply below_alloc | apply pw_below_drewN | apply below_drew1 | refine below_set ?_ GE383.out | refine below_set ?_ GE395.out) | exact HB.out)))); have n4_ := Aside0.mk (blk_below (g := gb383) (o := .cells #[.int .i8 a2_0, .int .i8 a2_1, .int .i8 a2_2, .int .i8 a2_3] 44 (0, 0)) (by (with_reducible repeat (first | refine blk_drewN ?_ _ | refine blk_drew ?_ | refine blk_alloc ?_ _)); exact BK383.out) hb); have n5_ := Aside0.mk (blk_below (g := gb395) (o := .cells #[.int .i64 1, .int .i64 t391, .int .i64 t392, .int .i64 t393, .int .i64 t394] 26 (0, 0)) (by (with_reducible repeat (first | refine blk_drewN ?_ _ | refine blk_drew ?_ | refine blk_alloc ?_ _)); exact BK395.out) hb); have n6_ := Aside0.mk (below_step (by repeat (first | (with_reducible first | exact HB.out | apply below_alloc | apply pw_below_drewN | apply below_drew1 | refine below_set ?_ GE383.out | refine below_set ?_ GE395.out) | exact HB.out)) hb); clear HO389; clear HO401; clear HO404; clear BK383; clear BK395; clear HB; have HO389 := n0_; have HO401 := n1_; have HO404 := n2_; have HO410 := n3_; have BK383 := n4_; have BK395 := n5_; have HB := n6_; clear n0_ n1_ n2_ n3_ n4_ n5_ n6_; (try clear hb); (try clear hb2); (try clear hk); (try clear hi); (try clear ho0)))
            go_ret
            exact ⟨by first | rfl | (simp [errW_none, errW_some] <;> rfl) | (simp [*, errW_none, errW_some] <;> rfl), by repeat (first | (with_reducible first | exact HB.out | apply below_alloc | apply pw_below_drewN | apply below_drew1 | refine below_set ?_ GE383.out | refine below_set ?_ GE395.out) | exact HB.out)⟩
        · rw [if_neg c16] at H
          exact absurd H (by simp)

end Go.Proofs.Yteebkkdbkkibmaa.Pr
