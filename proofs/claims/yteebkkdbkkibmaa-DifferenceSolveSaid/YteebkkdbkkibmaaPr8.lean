/- Functions of this claim and what their calls compute, written by wip/tools/mp.py, a variant of the kit printer. Conditions: each theorem has its own. -/
import Derived.Test.YteebkkdbkkibmaaPr0
import Derived.Test.YteebkkdbkkibmaaPr4
import Derived.Test.YteebkkdbkkibmaaPr5
namespace Go.Proofs.Yteebkkdbkkibmaa.Pr
open Go.RowKit Go.Proofs.YteebkkdbkkibmaaW.PrintWords Go.Proofs.YteebkkdbkkibmaaW.PrintLast Go.Proofs.YteebkkdbkkibmaaW.PrintMore
attribute [local go_sem] max2_int min2_int max_two min_two max_three min_three max_four min_four   -- for this text's walks alone
set_option linter.unusedVariables false
set_option linter.unusedSimpArgs false

/-! ### difference_Solve: function 17 -/
def difference_Solve.l0 : Nat → List Int → List Int → List Int → Int → Int → Option (List Int × Int)
  | 0, _, _, _, _, _ => none
  | k + 1, x7, x9, x28, x29, x30 => if x30 < x29 then (if 0 ≤ x30 then (if x30 < (x28.length : Int) then (if 0 < (x7.length : Int) then (if x9.length < 17592186044416 then (difference_Solve.l0 k x7 (x9 ++ [wrap64 ((rd x28 x30) - (rd x7 0))]) x28 x29 (wrap64 (x30 + 1))) else (none)) else (none)) else (none)) else (none)) else (some (x9, 0))
def difference_Solve.f (k : Nat) (a0 : Int) (l1 : List (S26)) : Option (List Int × Int) := (difference_Valid.f k a0 l1).bind fun t160 => (if t160 = 0 then ((difference_arcs.f k l1).bind fun t161 => ((difference_distances.f k a0 t161).bind fun bt164 => (if bt164.2 = true then (if 1 ≤ (bt164.1.length : Int) then ((some (bt164.1.drop 1 : List Int)).bind fun y168 => (difference_Solve.l0 k bt164.1 ([] : List Int) y168 (y168.length : Int) 0)) else (none)) else (some (([] : List Int), 10))))) else (some (([] : List Int), t160)))
theorem difference_Solve.mono_l : ∀ k, (∀ y0 y1 y2 y3 y4, LeO (difference_Solve.l0 k y0 y1 y2 y3 y4) (difference_Solve.l0 (k + 1) y0 y1 y2 y3 y4))
  | 0 => fun _ _ _ _ _ r h => by simp [difference_Solve.l0] at h
  | k + 1 => by
    have ih0 := difference_Solve.mono_l k
    · intro y0 y1 y2 y3 y4
      unfold difference_Solve.l0
      repeat' first
      | (with_reducible exact ih0 _ _ _ _ _)
      | (with_reducible exact difference_Valid.mono _ _ _)
      | (with_reducible exact difference_arcs.mono _ _)
      | (with_reducible exact difference_distances.mono _ _ _)
      | (with_reducible exact LeO.refl _)
      | (with_reducible exact LeO.none _)
      | (with_reducible refine LeO.ite ?_ ?_)
      | (with_reducible refine LeO.bind ?_ (fun _ => ?_))
      | exact ih0 _ _ _ _ _
      | exact difference_Valid.mono _ _ _
      | exact difference_arcs.mono _ _
      | exact difference_distances.mono _ _ _
      | exact LeO.none _
      | refine LeO.ite ?_ ?_
      | refine LeO.bind ?_ (fun _ => ?_)
theorem difference_Solve.mono : ∀ a0 a1 k, LeO (difference_Solve.f k a0 a1) (difference_Solve.f (k + 1) a0 a1) := by
  intro a0 a1 k
  have ih0 := difference_Solve.mono_l k
  unfold difference_Solve.f
  repeat' first
      | (with_reducible exact ih0 _ _ _ _ _)
      | (with_reducible exact difference_Valid.mono _ _ _)
      | (with_reducible exact difference_arcs.mono _ _)
      | (with_reducible exact difference_distances.mono _ _ _)
      | (with_reducible exact LeO.refl _)
      | (with_reducible exact LeO.none _)
      | (with_reducible refine LeO.ite ?_ ?_)
      | (with_reducible refine LeO.bind ?_ (fun _ => ?_))
      | exact ih0 _ _ _ _ _
      | exact difference_Valid.mono _ _ _
      | exact difference_arcs.mono _ _
      | exact difference_distances.mono _ _ _
      | exact LeO.none _
      | refine LeO.ite ?_ ?_
      | refine LeO.bind ?_ (fun _ => ?_)
set_option maxHeartbeats 8000000 in
set_option maxRecDepth 100000 in
theorem difference_Solve.calls (k : Nat) (a0 : Int) (A1 : Option Addr) (c1 : Nat) (l1 : List (S26)) (r1 : List Int) (r2 : Int) (w : World) (hr1 : Kd.C k26 w A1 l1.length l1) (hc1 : l1.length ≤ c1) (h : difference_Solve.f k a0 l1 = some (r1, r2)) :
    Calls Try.prog 17 #[.int .i64 a0, .slice A1 l1.length c1] w fun e w' => ∃ v0_ : Value, e = .returned (.tuple #[v0_, .int .i64 r2]) ∧ Kd.R (Kd.int .i64) 3 w' w.heap.size (fun _ => True) v0_ r1 ∧ Below w.heap.size w w' := by
  have HR1 := Aside0.mk hr1
  have HC1 := Aside0.mk hc1
  clear hr1 hc1
  have HB := Aside0.mk (Below.refl w.heap.size w)
  have H : ((difference_Valid.f k a0 l1).bind fun t160 => (if t160 = 0 then ((difference_arcs.f k l1).bind fun t161 => ((difference_distances.f k a0 t161).bind fun bt164 => (if bt164.2 = true then (if 1 ≤ (bt164.1.length : Int) then ((some (bt164.1.drop 1 : List Int)).bind fun y168 => (difference_Solve.l0 k bt164.1 ([] : List Int) y168 (y168.length : Int) 0)) else (none)) else (some (([] : List Int), 10))))) else (some (([] : List Int), t160)))) = some (r1, r2) := h
  clear h
  replace H := Option.bind_eq_some_iff.mp H
  obtain ⟨t160, A30, H⟩ := H
  replace H : (if t160 = 0 then ((difference_arcs.f k l1).bind fun t161 => ((difference_distances.f k a0 t161).bind fun bt164 => (if bt164.2 = true then (if 1 ≤ (bt164.1.length : Int) then ((some (bt164.1.drop 1 : List Int)).bind fun y168 => (difference_Solve.l0 k bt164.1 ([] : List Int) y168 (y168.length : Int) 0)) else (none)) else (some (([] : List Int), 10))))) else (some (([] : List Int), t160))) = some (r1, r2) := H
  have A3 := Aside0.mk A30
  clear A30
  by_cases c4 : t160 = 0
  · rw [if_pos c4] at H
    have c4b0 : (t160 == 0) = true := beq_iff_eq.mpr c4
    have c4b1 : (t160 != 0) = false := bne_eq_false_iff_eq.mpr c4
    clear c4
    replace H := Option.bind_eq_some_iff.mp H
    obtain ⟨t161, A50, H⟩ := H
    replace H : ((difference_distances.f k a0 t161).bind fun bt164 => (if bt164.2 = true then (if 1 ≤ (bt164.1.length : Int) then ((some (bt164.1.drop 1 : List Int)).bind fun y168 => (difference_Solve.l0 k bt164.1 ([] : List Int) y168 (y168.length : Int) 0)) else (none)) else (some (([] : List Int), 10)))) = some (r1, r2) := H
    have A5 := Aside0.mk A50
    clear A50
    replace H := Option.bind_eq_some_iff.mp H
    obtain ⟨⟨t164, t165⟩, A60, H⟩ := H
    replace H : (if t165 = true then (if 1 ≤ (t164.length : Int) then ((some (t164.drop 1 : List Int)).bind fun y168 => (difference_Solve.l0 k t164 ([] : List Int) y168 (y168.length : Int) 0)) else (none)) else (some (([] : List Int), 10))) = some (r1, r2) := H
    have A6 := Aside0.mk A60
    clear A60
    by_cases c7 : t165 = true
    · subst c7
      have H1 : (if 1 ≤ (t164.length : Int) then ((some (t164.drop 1 : List Int)).bind fun y168 => (difference_Solve.l0 k t164 ([] : List Int) y168 (y168.length : Int) 0)) else (none)) = some (r1, r2) := by rw [if_pos rfl] at H; exact H
      clear H
      have H := H1
      clear H1
      by_cases c8 : 1 ≤ (t164.length : Int)
      · rw [if_pos c8] at H
        have c8b0 := eq_true c8
        have c8b1 : decide (1 ≤ (t164.length : Int)) = true := decide_eq_true c8
        clear c8
        obtain ⟨y168, hy168⟩ : ∃ y_ : List Int, y_ = (t164.drop 1) := ⟨_, rfl⟩
        replace H : (difference_Solve.l0 k t164 ([] : List Int) y168 (y168.length : Int) 0) = some (r1, r2) := by first | (rw [hy168]; with_reducible exact H) | (have H2_ := (Option.bind_some _ _).symm.trans H; rw [hy168]; with_reducible exact H2_) | (have H2_ := (Option.bind_some _ _).symm.trans H; with_reducible exact H2_) | with_reducible exact H | (rw [hy168]; exact H) | exact H
        have Ny168 := Aside0.mk hy168
        clear hy168
        have H' := Aside0.mk H
        clear H
        go_enter Try.func17, Try.ntmps17
        go_wp2_with (first | ((with_reducible refine gate_callee (f := 30) rfl ?_); refine goesL_ (some 14) rfl rfl Try.func30 (by kernel_rfl) rfl #[.int .i64 a0, .slice A1 l1.length c1] rfl (by (try simp only [List.map_toArray, List.map_cons, List.map_nil]); first | done | rfl | (simp only [List.length_drop, List.length_take]; rfl)) ?_; (with_reducible refine (difference_Valid.calls k a0 _ _ l1 t160 _ ?side1 ?side2 A3.out).mono ?_); (case side1 => repeat (first | exact HR1.out | (with_reducible refine Kd.C_alloc ?_ _) | (with_reducible refine Kd.C_drewN ?_ _) | (with_reducible refine Kd.C_drew ?_))); (case side2 => exact HC1.out); rintro e w9 ⟨rfl, hb⟩; refine ⟨_, rfl, ?_⟩; have n0_ := Aside0.mk (below_step (by repeat (first | (with_reducible first | exact HB.out | apply below_alloc | apply pw_below_drewN | apply below_drew1) | exact HB.out)) hb); clear HB; have HB := n0_; clear n0_; (try clear hb); (try clear hb2); (try clear hk); (try clear hi)) | ((with_reducible refine gate_callee (f := 41) rfl ?_); refine goesL_ (some 21) rfl rfl Try.func41 (by kernel_rfl) rfl #[.slice A1 l1.length c1] rfl (by (try simp only [List.map_toArray, List.map_cons, List.map_nil]); first | done | rfl | (simp only [List.length_drop, List.length_take]; rfl)) ?_; (with_reducible refine (difference_arcs.calls k _ _ l1 t161 _ ?side1 ?side2 A5.out).mono ?_); (case side1 => repeat (first | exact (Kd.C_below HR1.out HB.out) | (with_reducible refine Kd.C_alloc ?_ _) | (with_reducible refine Kd.C_drewN ?_ _) | (with_reducible refine Kd.C_drew ?_))); (case side2 => exact HC1.out); rintro e w10 ⟨v162, rfl, ho0, hb⟩; refine ⟨_, rfl, ?_⟩; have n0_ := Aside0.mk (Kd.R_lower ho0 (below_size (by repeat (first | (with_reducible first | exact HB.out | apply below_alloc | apply pw_below_drewN | apply below_drew1) | exact HB.out)))); have n1_ := Aside0.mk (below_step (by repeat (first | (with_reducible first | exact HB.out | apply below_alloc | apply pw_below_drewN | apply below_drew1) | exact HB.out)) hb); clear HB; have HO163 := n0_; have HB := n1_; clear n0_ n1_; (try clear hb); (try clear hb2); (try clear hk); (try clear hi); (try clear ho0); obtain ⟨Ao11, co11, eo11⟩ := Kd.R_slice HO163.out; subst eo11) | ((with_reducible refine gate_callee (f := 46) rfl ?_); refine goesL_ (some 22) rfl rfl Try.func46 (by kernel_rfl) rfl #[.int .i64 a0, .slice Ao11 t161.length co11] rfl (by (try simp only [List.map_toArray, List.map_cons, List.map_nil]); first | done | rfl | (simp only [List.length_drop, List.length_take]; rfl)) ?_; (with_reducible refine (difference_distances.calls k a0 _ _ t161 t164 true _ ?side1 ?side2 A6.out).mono ?_); (case side1 => repeat (first | exact (Kd.R_reads' HO163.out).2.2 | (with_reducible refine Kd.C_alloc ?_ _) | (with_reducible refine Kd.C_drewN ?_ _) | (with_reducible refine Kd.C_drew ?_))); (case side2 => exact (Kd.R_reads' HO163.out).2.1); rintro e w12 ⟨v166, rfl, ho0, hb⟩; refine ⟨_, rfl, ?_⟩; have n0_ := Aside0.mk (Kd.R_below (by (with_reducible repeat (first | apply Kd.R_alloc | apply Kd.R_drewN | apply Kd.R_drew)); exact HO163.out) hb); have n1_ := Aside0.mk (Kd.R_lower ho0 (below_size (by repeat (first | (with_reducible first | exact HB.out | apply below_alloc | apply pw_below_drewN | apply below_drew1) | exact HB.out)))); have n2_ := Aside0.mk (below_step (by repeat (first | (with_reducible first | exact HB.out | apply below_alloc | apply pw_below_drewN | apply below_drew1) | exact HB.out)) hb); clear HO163; clear HB; have HO163 := n0_; have HO167 := n1_; have HB := n2_; clear n0_ n1_ n2_; (try clear hb); (try clear hb2); (try clear hk); (try clear hi); (try clear ho0); obtain ⟨Ao14, co14, eo14⟩ := Kd.R_slice HO167.out; subst eo14; have q13 : (1 : Int) ≤ ((t164.length : Int) : Int) := of_decide_eq_true (by first | (with_reducible assumption) | assumption); obtain ⟨i013, hi013, _, hsz13, _⟩ := info_parts info3; have hroom13 : t164.length ≤ co14 := (Kd.R_reads' HO167.out).2.1; have hC13 : Kd.C (Kd.int .i64) _ Ao14 t164.length t164 := (Kd.R_reads' HO167.out).2.2; have hcut13 := cut_from (P := Try.prog) 36 3 .i64 Try.underlying36 hi013 1 hsz13 Ao14 t164.length co14 1 (by omega) q13; have hr13 := Kd.C_drop (m := (1 : Int).toNat) (c := co14) hC13 (by omega) hroom13; obtain ⟨A13, hA13⟩ : ∃ A1, A1 = (if co14 = (1 : Int).toNat then Ao14 else (Ao14 : Option Addr).map (·.add ((1 : Int).toNat * 1))) := ⟨_, rfl⟩; obtain ⟨c13, hc13⟩ : ∃ c1, c1 = co14 - (1 : Int).toNat := ⟨_, rfl⟩; have hy13 : y168.length = t164.length - (1 : Int).toNat := (by rw [Ny168.out, List.length_drop] <;> omega); rw [show (t164).drop (1 : Int).toNat = y168 from Ny168.out.symm] at hr13; replace hr13 : Kd.C (Kd.int .i64) _ A13 y168.length y168 := (by rw [hA13]; exact hr13); rw [← hy13, ← hA13, ← hc13] at hcut13; have HR171 := Aside0.mk hr13; have HC171 := Aside0.mk (show y168.length ≤ c13 from by rw [hy13, hc13]; exact Nat.sub_le_sub_right hroom13 _); clear hr13 hC13 hroom13 hi013 hsz13 hc13; have KY13 := Aside0.mk hy13; have KA13 := Aside0.mk hA13; clear hy13 hA13; have KL13 := Aside0.mk (show 1 ≤ t164.length from by omega); replace q13 := eq_true q13))
        go_loopg [9, 30] k (fun kq v9 v30 w' => ∃ (x9_1 : List Int) (x30_1 : Int), v30 = .int .i64 x30_1 ∧ Aside0 (difference_Solve.l0 kq t164 x9_1 y168 (y168.length : Int) x30_1 = some (r1, r2)) ∧ Aside0 (kq ≤ k) ∧ Aside0 (Kd.R (Kd.int .i64) 3 w' w.heap.size (fun k_ => some k_ ≠ (v9 : Value).ownBlock) (.slice Ao14 t164.length co14) t164) ∧ Aside0 (Kd.R (Kd.int .i64) 3 w' w.heap.size (fun k_ => some k_ ≠ ((.slice Ao14 t164.length co14) : Value).ownBlock) v9 x9_1) ∧ Aside0 (Below w.heap.size w w'))
        case atStart => exact ⟨(([] : List Int)), (0), (by first | rfl | (simp; done) | (simp [*]; done)), H', ⟨Nat.le_refl _⟩, ⟨by (with_reducible repeat (first | apply Kd.R_alloc | apply Kd.R_drewN | apply Kd.R_drew)); exact Kd.R_mono HO167.out (fun _ hk => (by simp [Value.ownBlock]))⟩, ⟨by first | exact Kd.R_nil _ _ _ _ _ | exact Kd.N_nil _ _ _ _ _ | exact Kd.V_nil _ _ _ _ _ | exact Kd.Q_nil _ _ _ _ _ | exact Kd.S_nil _ _ _ _ _⟩, ⟨by repeat (first | (with_reducible first | exact HB.out | apply below_alloc | apply pw_below_drewN | apply below_drew1) | exact HB.out)⟩⟩
        case round =>
          clear H'
          try clear c1
          try clear q1
          try clear p2
          try clear c3
          try clear c4
          try clear c4b0
          try clear c4b1
          try clear c7
          try clear c8
          try clear c8b0
          try clear c8b1
          try clear c13
          try clear q13
          try clear q13
          obtain ⟨x9_1, x30_1, rfl, HA, HK1, HO_7, HO_9, HB⟩ := hrel
          cases gk with
          | zero => exact absurd HA.out (by simp [difference_Solve.l0])
          | succ k1 =>
            have H := HA.out
            clear HA
            simp only [difference_Solve.l0] at H
            by_cases c15 : x30_1 < (y168.length : Int)
            · rw [if_pos c15] at H
              have c15b0 : decide (x30_1 < (y168.length : Int)) = true := decide_eq_true c15
              clear c15
              by_cases c16 : 0 ≤ x30_1
              · rw [if_pos c16] at H
                have c16b0 : decide (0 ≤ x30_1) = true := decide_eq_true c16
                clear c16
                by_cases c17 : x30_1 < (y168.length : Int)
                · rw [if_pos c17] at H
                  have c17b0 : decide (x30_1 < (y168.length : Int)) = true := decide_eq_true c17
                  clear c17
                  by_cases c18 : 0 < (t164.length : Int)
                  · rw [if_pos c18] at H
                    have c18b0 : decide (0 < (t164.length : Int)) = true := decide_eq_true c18
                    have c18b1 : decide (0 < t164.length) = true := decide_eq_true (by omega)
                    clear c18
                    by_cases c19 : x9_1.length < 17592186044416
                    · rw [if_pos c19] at H
                      have LMc19 := Aside0.mk c19
                      clear c19
                      obtain ⟨y174, hy174⟩ : ∃ y_ : List Int, y_ = (x9_1 ++ [wrap64 ((rd y168 x30_1) - (rd t164 0))]) := ⟨_, rfl⟩
                      replace H : (difference_Solve.l0 k1 t164 y174 y168 (y168.length : Int) (wrap64 (x30_1 + 1))) = some (r1, r2) := by first | (rw [hy174]; with_reducible exact H) | (have H2_ := (Option.bind_some _ _).symm.trans H; rw [hy174]; with_reducible exact H2_) | (have H2_ := (Option.bind_some _ _).symm.trans H; with_reducible exact H2_) | with_reducible exact H | (rw [hy174]; exact H) | exact H
                      have Ny174 := Aside0.mk hy174
                      clear hy174
                      have H' := Aside0.mk H
                      clear H
                      have p172 : 0 ≤ (x30_1 : Int) := of_decide_eq_true (by first | (with_reducible assumption) | assumption)
                      have q172 : x30_1 < (y168.length : Int) := of_decide_eq_true (by first | (with_reducible assumption) | assumption)
                      have hrr_ := Kd.C_drop (m := (1 : Int).toNat) (c := co14) (Kd.R_reads' HO_7.out).2.2 (by have := KL13.out; omega) (Kd.R_reads' HO_7.out).2.1
                      rw [show (t164).drop (1 : Int).toNat = y168 from Ny168.out.symm] at hrr_
                      replace hrr_ : Kd.C (Kd.int .i64) _ A13 y168.length y168 := (by rw [KA13.out]; exact hrr_)
                      obtain ⟨ad172, e172, hx172_0⟩ := Kd.at_int hrr_ x30_1 p172 q172
                      cases e172
                      replace p172 := eq_true p172
                      replace q172 := eq_true q172
                      have p173 : 0 ≤ (0 : Int) := (by omega)
                      have q173 : 0 < (t164.length : Int) := of_decide_eq_true (by first | (with_reducible assumption) | assumption)
                      obtain ⟨ad173, e173, hx173_0⟩ := Kd.at_int (Kd.R_reads' HO_7.out).2.2 0 p173 q173
                      cases e173
                      have qi173 : (0 < t164.length) = True := eq_true (by omega)
                      (try rw [show ((0 : Int)).toNat = 0 from rfl] at hx173_0)
                      (try rw [Addr.add_zero'] at hx173_0)
                      replace p173 := eq_true p173
                      replace q173 := eq_true q173
                      go_wp2_with (first | ((with_reducible refine gate_builtin (b := .append) (xs := #[.tmp 34, .tmp 40]) rfl ?_); at_builtin; refine Kd.R_append (Kd.int .i64) (w0 := w) w.heap.size rfl (.tmp 34) (.tmp 40) 36 3 (.int .i64 0) 8 rfl Try.underlying36 info3 rfl (by decide) (by omega) u9 x9_1 (wrap64 ((rd y168 x30_1) - (rd t164 0))) [.int .i64 (wrap64 ((rd y168 x30_1) - (rd t164 0)))] (fun k_ => some k_ ≠ (.slice (some ad173) t164.length co14 : Value).ownBlock) (fun _ => False) rfl rfl ?aP (fun _ hk => hk.elim) ?aF ?aO ?aB ?aS ?aL ?_; (case aP => exact rfl); (case aB => exact (by repeat (first | (with_reducible first | exact HB.out | apply below_alloc | apply pw_below_drewN | apply below_drew1) | exact HB.out))); (case aF => exact (fun k_ hk => Kd.fresh' (Kd.R_lt (by (with_reducible repeat (first | apply Kd.R_alloc | apply Kd.R_drewN | apply Kd.R_drew)); exact HO_7.out)) k_ hk)); (case aO => exact (by (with_reducible repeat (first | apply Kd.R_alloc | apply Kd.R_drewN | apply Kd.R_drew)); exact HO_9.out)); (case aS => exact (below_size (by repeat (first | (with_reducible first | exact HB.out | apply below_alloc | apply pw_below_drewN | apply below_drew1) | exact HB.out)))); (case aL => have := LMc19.out; omega); intro v175 w20 ho hb hg hat; rw [← Ny174.out] at ho; have n0_ := Aside0.mk (Kd.R_after (ok := (fun _ => True)) (by (with_reducible repeat (first | apply Kd.R_alloc | apply Kd.R_drewN | apply Kd.R_drew)); exact Kd.R_mono HO_7.out (fun _ hk => ⟨trivial, hk⟩)) hg hat); have n1_ := Aside0.mk (hb); have n2_ := Aside0.mk (ho); clear HO_7; clear HB; clear HO_9; have HO_7 := n0_; have HB := n1_; have HO176 := n2_; clear n0_ n1_ n2_; clear ho hb hg hat))
                      go_roundg k1
                      case measure => have := HK1.out; omega
                      case rel => exact ⟨(y174), (wrap64 (x30_1 + 1)), (by first | rfl | (simp; done) | (simp [*]; done)), H', ⟨by have := HK1.out; omega⟩, ⟨by (with_reducible repeat (first | apply Kd.R_alloc | apply Kd.R_drewN | apply Kd.R_drew)); exact Kd.R_mono HO_7.out (fun _ hk => hk.2)⟩, ⟨by (with_reducible repeat (first | apply Kd.R_alloc | apply Kd.R_drewN | apply Kd.R_drew)); exact HO176.out⟩, ⟨by repeat (first | (with_reducible first | exact HB.out | apply below_alloc | apply pw_below_drewN | apply below_drew1) | exact HB.out)⟩⟩
                    · rw [if_neg c19] at H
                      exact absurd H (by simp)
                  · rw [if_neg c18] at H
                    exact absurd H (by simp)
                · rw [if_neg c17] at H
                  exact absurd H (by simp)
              · rw [if_neg c16] at H
                exact absurd H (by simp)
            · rw [if_neg c15] at H
              have c15b0 : decide (x30_1 < (y168.length : Int)) = false := decide_eq_false c15
              clear c15
              simp only [Option.some.injEq, Prod.mk.injEq] at H
              obtain ⟨rfl, rfl⟩ := H
              go_wp2
              go_ret2
              exact ⟨_, by first | rfl | (simp [errW_none, errW_some] <;> rfl) | (simp [*, errW_none, errW_some] <;> rfl), by (with_reducible repeat (first | apply Kd.R_alloc | apply Kd.R_drewN | apply Kd.R_drew)); exact Kd.R_mono HO_9.out (fun _ hk => trivial), by repeat (first | (with_reducible first | exact HB.out | apply below_alloc | apply pw_below_drewN | apply below_drew1) | exact HB.out)⟩
      · rw [if_neg c8] at H
        exact absurd H (by simp)
    · replace c7 := Bool.eq_false_iff.mpr c7
      subst c7
      have H1 : (some (([] : List Int), 10)) = some (r1, r2) := by rw [if_neg (show ¬ (false = true) by decide)] at H; exact H
      clear H
      have H := H1
      clear H1
      simp only [Option.some.injEq, Prod.mk.injEq] at H
      obtain ⟨rfl, rfl⟩ := H
      go_enter Try.func17, Try.ntmps17
      go_wp2_with (first | ((with_reducible refine gate_callee (f := 30) rfl ?_); refine goesL_ (some 14) rfl rfl Try.func30 (by kernel_rfl) rfl #[.int .i64 a0, .slice A1 l1.length c1] rfl (by (try simp only [List.map_toArray, List.map_cons, List.map_nil]); first | done | rfl | (simp only [List.length_drop, List.length_take]; rfl)) ?_; (with_reducible refine (difference_Valid.calls k a0 _ _ l1 t160 _ ?side1 ?side2 A3.out).mono ?_); (case side1 => repeat (first | exact HR1.out | (with_reducible refine Kd.C_alloc ?_ _) | (with_reducible refine Kd.C_drewN ?_ _) | (with_reducible refine Kd.C_drew ?_))); (case side2 => exact HC1.out); rintro e w21 ⟨rfl, hb⟩; refine ⟨_, rfl, ?_⟩; have n0_ := Aside0.mk (below_step (by repeat (first | (with_reducible first | exact HB.out | apply below_alloc | apply pw_below_drewN | apply below_drew1) | exact HB.out)) hb); clear HB; have HB := n0_; clear n0_; (try clear hb); (try clear hb2); (try clear hk); (try clear hi)) | ((with_reducible refine gate_callee (f := 41) rfl ?_); refine goesL_ (some 21) rfl rfl Try.func41 (by kernel_rfl) rfl #[.slice A1 l1.length c1] rfl (by (try simp only [List.map_toArray, List.map_cons, List.map_nil]); first | done | rfl | (simp only [List.length_drop, List.length_take]; rfl)) ?_; (with_reducible refine (difference_arcs.calls k _ _ l1 t161 _ ?side1 ?side2 A5.out).mono ?_); (case side1 => repeat (first | exact (Kd.C_below HR1.out HB.out) | (with_reducible refine Kd.C_alloc ?_ _) | (with_reducible refine Kd.C_drewN ?_ _) | (with_reducible refine Kd.C_drew ?_))); (case side2 => exact HC1.out); rintro e w22 ⟨v162, rfl, ho0, hb⟩; refine ⟨_, rfl, ?_⟩; have n0_ := Aside0.mk (Kd.R_lower ho0 (below_size (by repeat (first | (with_reducible first | exact HB.out | apply below_alloc | apply pw_below_drewN | apply below_drew1) | exact HB.out)))); have n1_ := Aside0.mk (below_step (by repeat (first | (with_reducible first | exact HB.out | apply below_alloc | apply pw_below_drewN | apply below_drew1) | exact HB.out)) hb); clear HB; have HO163 := n0_; have HB := n1_; clear n0_ n1_; (try clear hb); (try clear hb2); (try clear hk); (try clear hi); (try clear ho0); obtain ⟨Ao23, co23, eo23⟩ := Kd.R_slice HO163.out; subst eo23) | ((with_reducible refine gate_callee (f := 46) rfl ?_); refine goesL_ (some 22) rfl rfl Try.func46 (by kernel_rfl) rfl #[.int .i64 a0, .slice Ao23 t161.length co23] rfl (by (try simp only [List.map_toArray, List.map_cons, List.map_nil]); first | done | rfl | (simp only [List.length_drop, List.length_take]; rfl)) ?_; (with_reducible refine (difference_distances.calls k a0 _ _ t161 t164 false _ ?side1 ?side2 A6.out).mono ?_); (case side1 => repeat (first | exact (Kd.R_reads' HO163.out).2.2 | (with_reducible refine Kd.C_alloc ?_ _) | (with_reducible refine Kd.C_drewN ?_ _) | (with_reducible refine Kd.C_drew ?_))); (case side2 => exact (Kd.R_reads' HO163.out).2.1); rintro e w24 ⟨v166, rfl, ho0, hb⟩; refine ⟨_, rfl, ?_⟩; have n0_ := Aside0.mk (Kd.R_below (by (with_reducible repeat (first | apply Kd.R_alloc | apply Kd.R_drewN | apply Kd.R_drew)); exact HO163.out) hb); have n1_ := Aside0.mk (Kd.R_lower ho0 (below_size (by repeat (first | (with_reducible first | exact HB.out | apply below_alloc | apply pw_below_drewN | apply below_drew1) | exact HB.out)))); have n2_ := Aside0.mk (below_step (by repeat (first | (with_reducible first | exact HB.out | apply below_alloc | apply pw_below_drewN | apply below_drew1) | exact HB.out)) hb); clear HO163; clear HB; have HO163 := n0_; have HO167 := n1_; have HB := n2_; clear n0_ n1_ n2_; (try clear hb); (try clear hb2); (try clear hk); (try clear hi); (try clear ho0)))
      go_ret2
      exact ⟨_, by first | rfl | (simp [errW_none, errW_some] <;> rfl) | (simp [*, errW_none, errW_some] <;> rfl), by first | exact Kd.R_nil _ _ _ _ _ | exact Kd.N_nil _ _ _ _ _ | exact Kd.V_nil _ _ _ _ _ | exact Kd.Q_nil _ _ _ _ _ | exact Kd.S_nil _ _ _ _ _, by repeat (first | (with_reducible first | exact HB.out | apply below_alloc | apply pw_below_drewN | apply below_drew1) | exact HB.out)⟩
  · rw [if_neg c4] at H
    have c4b0 : (t160 == 0) = false := beq_eq_false_iff_ne.mpr c4
    have c4b1 : (t160 != 0) = true := bne_iff_ne.mpr c4
    simp only [Option.some.injEq, Prod.mk.injEq] at H
    obtain ⟨rfl, rfl⟩ := H
    go_enter Try.func17, Try.ntmps17
    go_wp2_with (first | ((with_reducible refine gate_callee (f := 30) rfl ?_); refine goesL_ (some 14) rfl rfl Try.func30 (by kernel_rfl) rfl #[.int .i64 a0, .slice A1 l1.length c1] rfl (by (try simp only [List.map_toArray, List.map_cons, List.map_nil]); first | done | rfl | (simp only [List.length_drop, List.length_take]; rfl)) ?_; (with_reducible refine (difference_Valid.calls k a0 _ _ l1 t160 _ ?side1 ?side2 A3.out).mono ?_); (case side1 => repeat (first | exact HR1.out | (with_reducible refine Kd.C_alloc ?_ _) | (with_reducible refine Kd.C_drewN ?_ _) | (with_reducible refine Kd.C_drew ?_))); (case side2 => exact HC1.out); rintro e w25 ⟨rfl, hb⟩; refine ⟨_, rfl, ?_⟩; have n0_ := Aside0.mk (below_step (by repeat (first | (with_reducible first | exact HB.out | apply below_alloc | apply pw_below_drewN | apply below_drew1) | exact HB.out)) hb); clear HB; have HB := n0_; clear n0_; (try clear hb); (try clear hb2); (try clear hk); (try clear hi)))
    go_ret2
    exact ⟨_, by first | rfl | (simp [errW_none, errW_some] <;> rfl) | (simp [*, errW_none, errW_some] <;> rfl), by first | exact Kd.R_nil _ _ _ _ _ | exact Kd.N_nil _ _ _ _ _ | exact Kd.V_nil _ _ _ _ _ | exact Kd.Q_nil _ _ _ _ _ | exact Kd.S_nil _ _ _ _ _, by repeat (first | (with_reducible first | exact HB.out | apply below_alloc | apply pw_below_drewN | apply below_drew1) | exact HB.out)⟩

/-! ### bits_Mul32: function 71 -/
def bits_Mul32.f (a0 : Int) (a1 : Int) : Option (Int × Int) := some (((IntKind.u64.wrap ((IntKind.u64.wrap (a0)) * (IntKind.u64.wrap (a1)))) / 4294967296) % 4294967296, (IntKind.u64.wrap ((IntKind.u64.wrap (a0)) * (IntKind.u64.wrap (a1)))) % 4294967296)
set_option maxHeartbeats 8000000 in
set_option maxRecDepth 100000 in
theorem bits_Mul32.calls (a0 : Int) (a1 : Int) (r1 : Int) (r2 : Int) (w : World) (h : bits_Mul32.f a0 a1 = some (r1, r2)) :
    Calls Try.prog 71 #[.int .u32 a0, .int .u32 a1] w fun e w' => e = .returned (.tuple #[.int .u32 r1, .int .u32 r2]) ∧ Drawn0 w w' := by
  have H : (some (((IntKind.u64.wrap ((IntKind.u64.wrap (a0)) * (IntKind.u64.wrap (a1)))) / 4294967296) % 4294967296, (IntKind.u64.wrap ((IntKind.u64.wrap (a0)) * (IntKind.u64.wrap (a1)))) % 4294967296)) = some (r1, r2) := h
  clear h
  simp only [Option.some.injEq, Prod.mk.injEq] at H
  obtain ⟨rfl, rfl⟩ := H
  go_enter Try.func71, Try.ntmps71
  go_wp2
  go_ret2
  exact ⟨by first | rfl | (simp; done) | (simp [*]; done), by repeat (first | exact Drawn0.refl _ | apply Drawn0.step)⟩

/-! ### bits_Mul64: function 72 -/
def bits_Mul64.f (a0 : Int) (a1 : Int) : Option (Int × Int) := some (IntKind.u64.wrap ((IntKind.u64.wrap ((IntKind.u64.wrap ((a0 / 4294967296) * (a1 / 4294967296))) + ((IntKind.u64.wrap ((IntKind.u64.wrap ((a0 / 4294967296) * (Go.bits .and .u64 a1 4294967295))) + ((IntKind.u64.wrap ((Go.bits .and .u64 a0 4294967295) * (Go.bits .and .u64 a1 4294967295))) / 4294967296))) / 4294967296))) + ((IntKind.u64.wrap ((Go.bits .and .u64 (IntKind.u64.wrap ((IntKind.u64.wrap ((a0 / 4294967296) * (Go.bits .and .u64 a1 4294967295))) + ((IntKind.u64.wrap ((Go.bits .and .u64 a0 4294967295) * (Go.bits .and .u64 a1 4294967295))) / 4294967296))) 4294967295) + (IntKind.u64.wrap ((Go.bits .and .u64 a0 4294967295) * (a1 / 4294967296))))) / 4294967296)), IntKind.u64.wrap (a0 * a1))
set_option maxHeartbeats 8000000 in
set_option maxRecDepth 100000 in
theorem bits_Mul64.calls (a0 : Int) (a1 : Int) (r1 : Int) (r2 : Int) (w : World) (h : bits_Mul64.f a0 a1 = some (r1, r2)) :
    Calls Try.prog 72 #[.int .u64 a0, .int .u64 a1] w fun e w' => e = .returned (.tuple #[.int .u64 r1, .int .u64 r2]) ∧ Drawn0 w w' := by
  have H : (some (IntKind.u64.wrap ((IntKind.u64.wrap ((IntKind.u64.wrap ((a0 / 4294967296) * (a1 / 4294967296))) + ((IntKind.u64.wrap ((IntKind.u64.wrap ((a0 / 4294967296) * (Go.bits .and .u64 a1 4294967295))) + ((IntKind.u64.wrap ((Go.bits .and .u64 a0 4294967295) * (Go.bits .and .u64 a1 4294967295))) / 4294967296))) / 4294967296))) + ((IntKind.u64.wrap ((Go.bits .and .u64 (IntKind.u64.wrap ((IntKind.u64.wrap ((a0 / 4294967296) * (Go.bits .and .u64 a1 4294967295))) + ((IntKind.u64.wrap ((Go.bits .and .u64 a0 4294967295) * (Go.bits .and .u64 a1 4294967295))) / 4294967296))) 4294967295) + (IntKind.u64.wrap ((Go.bits .and .u64 a0 4294967295) * (a1 / 4294967296))))) / 4294967296)), IntKind.u64.wrap (a0 * a1))) = some (r1, r2) := h
  clear h
  simp only [Option.some.injEq, Prod.mk.injEq] at H
  obtain ⟨rfl, rfl⟩ := H
  go_enter Try.func72, Try.ntmps72
  go_wp2
  go_ret2
  exact ⟨by first | rfl | (simp; done) | (simp [*]; done), by repeat (first | exact Drawn0.refl _ | apply Drawn0.step)⟩

/-! ### bits_Mul: function 70 -/
def bits_Mul.f (a0 : Int) (a1 : Int) : Option (Int × Int) := (bits_Mul64.f a0 a1).bind fun bt177 => (some (bt177.1, bt177.2))
set_option maxHeartbeats 8000000 in
set_option maxRecDepth 100000 in
theorem bits_Mul.calls (a0 : Int) (a1 : Int) (r1 : Int) (r2 : Int) (w : World) (h : bits_Mul.f a0 a1 = some (r1, r2)) :
    Calls Try.prog 70 #[.int .u64 a0, .int .u64 a1] w fun e w' => e = .returned (.tuple #[.int .u64 r1, .int .u64 r2]) ∧ Drawn0 w w' := by
  have H : ((bits_Mul64.f a0 a1).bind fun bt177 => (some (bt177.1, bt177.2))) = some (r1, r2) := h
  clear h
  replace H := Option.bind_eq_some_iff.mp H
  obtain ⟨⟨t177, t178⟩, A30, H⟩ := H
  replace H : (some (t177, t178)) = some (r1, r2) := H
  have A3 := Aside0.mk A30
  clear A30
  simp only [Option.some.injEq, Prod.mk.injEq] at H
  obtain ⟨rfl, rfl⟩ := H
  go_enter Try.func70, Try.ntmps70
  go_wp2_with (first | ((with_reducible refine gate_callee (f := 72) rfl ?_); refine goesL_ (some 25) rfl rfl Try.func72 (by kernel_rfl) rfl #[.int .u64 a0, .int .u64 a1] rfl (by (try simp only [List.map_toArray, List.map_cons, List.map_nil]); first | done | rfl | (simp only [List.length_drop, List.length_take]; rfl)) ?_; (with_reducible refine (bits_Mul64.calls a0 a1 t177 t178 _ A3.out).mono ?_); rintro e w' ⟨rfl, ⟨nd, rfl⟩⟩; refine ⟨_, rfl, ?_⟩))
  go_ret2
  exact ⟨by first | rfl | (simp; done) | (simp [*]; done), by repeat (first | exact Drawn0.refl _ | apply Drawn0.step)⟩

/-! ### slices_Repeat_int_int: function 66 -/

def slices_Repeat_int_int.f (l0 : List Int) (a1 : Int) : Option (List Int) := if l0.length = 1 then (if 1 ≤ a1 then (if a1 ≤ 13 then (some (List.replicate a1.toNat (rd l0 0))) else none) else none) else none
def rowN (c : Int) (n m : Nat) : List Value := List.replicate n (.int .i64 c) ++ List.replicate (m - n) (.int .i64 0)

theorem rowN_len (c : Int) (n m : Nat) (h : n ≤ m) : (rowN c n m).length = m := by unfold rowN; simp; omega
theorem rowN_one (c : Int) (n m : Nat) : ∀ v ∈ rowN c n m, v.oneCell' = true := by
  intro v hv
  unfold rowN at hv
  rcases List.mem_append.1 hv with h | h <;> (rw [List.mem_replicate] at h; rw [h.2]; rfl)
theorem rowN_made (c : Int) (m : Nat) : (madeCells #[Value.int .i64 0] m) = (rowN c 0 m).toArray := by
  apply Array.toList_inj.1
  apply List.ext_getElem
  · simp [madeCells, rowN]
  · intro i h1 h2
    simp [madeCells, rowN, Nat.mod_one]
theorem rowN_splice (c : Int) (n j m : Nat) (h : n + j ≤ m) : splice (rowN c n m) n (List.replicate j (.int .i64 c)) = rowN c (n + j) m := by
  unfold splice rowN
  rw [List.take_left' (by simp), List.drop_append, List.drop_of_length_le (by simp), List.drop_replicate, List.length_replicate, List.length_replicate, List.nil_append, ← List.append_assoc, List.replicate_append_replicate]
  congr 2
  omega
theorem rowN_full (c : Int) (m : Nat) : rowN c m m = nums .i64 (List.replicate m c) := by
  unfold rowN nums
  rw [Nat.sub_self, List.replicate_zero, List.append_nil, List.map_replicate]
theorem rowN_own (c : Int) (m : Nat) (w : World) (g : Nat) (hm : m ≤ 1000) (hg : w.heap[g]? = some (.cells (rowN c m m).toArray 3 (0, 0))) :
    Kd.R (Kd.int .i64) 3 w g (fun _ => True) (.slice (some ⟨g, 0, none⟩) m m) (List.replicate m c) := by
  refine Kd.R_of_own (enc := Value.int .i64) ?_ (fun _ _ => trivial)
  refine ⟨?_, .inr ⟨g, m, (rowN c m m).toArray, ?_, Nat.le_refl _, hg, by simp, by unfold maxLen; omega, ?_, ?_⟩⟩
  · rw [encs, List.length_map]; simp
  · rw [List.length_replicate]
  · simp [rowN_len c m m (Nat.le_refl _)]
  · simp only [List.length_replicate, Nat.mul_one]
    rw [List.take_of_length_le (by rw [rowN_len c m m (Nat.le_refl _)]; omega), rowN_full]
    rfl
theorem info_size3 : (Try.prog.info? 3).map (·.size) = some 1 := by kernel_rfl
set_option maxHeartbeats 1600000 in
set_option maxRecDepth 100000 in
theorem rep_calls (hMul : ∀ (m : Int) (w : World), 1 ≤ m → m ≤ 13 → Calls Try.prog 70 #[.int .u64 1, .int .u64 m] w fun e w' => e = .returned (.tuple #[.int .u64 0, .int .u64 m]) ∧ Drawn0 w w')
    (ad : Addr) (c0 : Nat) (c : Int) (m : Nat) (w : World) (hm1 : 1 ≤ m) (hm2 : m ≤ 13) (hcell : w.cell? (ad.add 0) = some (.int .i64 c)) :
    Calls Try.prog 66 #[.slice (some ad) 1 c0, .int .i64 (m : Int)] w fun e w' => ∃ v0_ : Value, e = .returned (v0_) ∧ Kd.R (Kd.int .i64) 3 w' w.heap.size (fun _ => True) v0_ (List.replicate m c) ∧ Below w.heap.size w w' := by
  have hmm := print_make (P := Try.prog) 36 3 .i64 8 Try.underlying36 info3 (by omega) m (by omega)
  have HC := Aside0.mk hcell
  have hd0 : decide ((m : Int) < 0) = false := decide_eq_false (by omega)
  have hd1 : decide (9223372036854775807 < (m : Int)) = false := decide_eq_false (by omega)
  clear hcell
  go_enter Try.func66, Try.ntmps66
  go_wp2_with (first
    | (go_at_call 70; refine (hMul m _ (by omega) (by omega)).mono ?_; rintro e w' ⟨rfl, ⟨nq, rfl⟩⟩)
    | ((with_reducible refine gate_builtin (b := .copy) (xs := #[.tmp 31, .tmp 32]) rfl ?_)
       go_loud (rw [rowN_made c m])
       go_loud (refine wpList_copy_splice rfl (.tmp 31) (.tmp 32) 36 36 rfl 3 Try.underlying36 info_size3 _ _ m m 1 c0 rfl rfl w.heap.size 0 (rowN c 0 m) 3 ?hg [.int .i64 c] ?hn ?hpos ?hfit ?h1 w.heap.size w ?hb ?hBg ?_)
       (case hg => (exact heap_alloc_new _ _))
       (case hn => go_loud (show 1 = min 1 m; omega))
       (case hpos => go_loud (
        refine fun _ => ⟨rfl, ad, rfl, fun j v hj => ?_⟩
        have hc0 := pw_cell_below (below_alloc (pw_below_drewN (Below.refl w.heap.size w) nq) (.cells (rowN c 0 m).toArray 3)) HC.out
        rcases j with _ | j
        · rw [← Option.some.inj hj]; exact hc0
        · exact absurd hj (by simp)))
       (case hfit => go_loud (rw [rowN_len _ _ _ (by omega)]; simp; omega))
       (case h1 => go_loud (intro v hv; rw [List.mem_singleton.1 hv]; rfl))
       (case hb => go_loud (exact below_alloc (pw_below_drewN (Below.refl _ _) nq) _))
       (case hBg => go_loud (omega))
       intro w2 HG0 HB
       go_loud (have HG := Aside0.mk (show w2.heap[w.heap.size]? = some (.cells (rowN c 1 m).toArray 3 (0, 0)) from by rw [← rowN_splice c 0 1 m (by omega)]; exact HG0.out))
       clear HG0))
  go_loopw [8] (fun v wr => ∃ n : Nat, 1 ≤ n ∧ n ≤ m ∧ v = .int .i64 (n : Int) ∧ Aside0 (wr.heap[w.heap.size]? = some (.cells (rowN c n m).toArray 3 (0, 0))) ∧ Aside0 (Below w.heap.size w wr)) (fun v _ => m - (intOf v).toNat)
  case atStart => exact ⟨1, by omega, by omega, rfl, ⟨HG.out⟩, ⟨HB⟩⟩
  case round =>
    obtain ⟨n, hn1, hn2, rfl, HG', HB'⟩ := hrel
    clear HG HB
    have hw1 : wrap64 ((n : Int) + (min n (m - n) : Nat)) = ((n + min n (m - n) : Nat) : Int) := by unfold wrap64; omega
    by_cases hlt : n < m
    · have hl : decide (n < m) = true := decide_eq_true hlt
      go_wp2
      obtain ⟨cs, hcs⟩ : ∃ cs : List Value, cs = List.replicate (min n (m - n)) (.int .i64 c) := ⟨_, rfl⟩
      have Hcs := Aside0.mk hcs
      have hcl : cs.length = min n (m - n) := by rw [hcs, List.length_replicate]
      have HL := Aside0.mk hcl
      have HW := Aside0.mk hw1
      have hn0 : (0 : Int) ≤ (n : Int) := by omega
      have hnm : (n : Int) ≤ (m : Int) := by omega
      have hne : ¬ (m = n) := by omega
      have hne' : ¬ (n = m) := by omega
      have hnm' : n ≤ m := by omega
      have HCS := Aside0.mk (show ∀ j v, cs[j]? = some v → wr.drew.cell? ((⟨w.heap.size, 0, none⟩ : Addr).add j) = some v from by
        intro j v hv
        rw [hcs, List.getElem?_replicate] at hv
        split at hv
        · rename_i hj
          rw [add_plain, ← Option.some.inj hv]
          have hh : wr.drew.heap[w.heap.size]? = some (.cells (rowN c n m).toArray 3 (0, 0)) := HG'.out
          rw [cell_of_row wr.drew w.heap.size j _ 3 (0, 0) hh]
          simp only [List.getElem?_toArray, rowN]
          rw [List.getElem?_append_left (by simp; omega), List.getElem?_replicate, if_pos (by omega)]
        · exact absurd hv (by simp))
      have H1 := Aside0.mk (show ∀ v ∈ cs, v.oneCell' = true from by
        intro v hv
        rw [hcs] at hv
        rw [(List.mem_replicate.1 hv).2]; rfl)
      have hw2 : wrap64 ((n : Int) + (cs.length : Int)) = ((n + cs.length : Nat) : Int) := by rw [hcl]; exact hw1
      have hcl1 : 1 ≤ cs.length := by omega
      have hcl2 : n + cs.length ≤ m := by omega
      clear hcs hcl hw1
      go_region_law ((go_loud (refine step_copy_splice (P := Try.prog) (hgd := ?hgd) (.tmp 41) (.tmp 44) 36 36 ?ho 3 Try.underlying36 info_size3 (some ⟨w.heap.size, n, none⟩) (some ⟨w.heap.size, 0, none⟩) (m - n) (m - n) n m ?hd ?hs w.heap.size n (rowN c n m) 3 ?hg cs ?hn ?hpos ?hfit ?h1 w.heap.size w ?hb ?hBg ?_); (case hgd => rfl); (case ho => rfl); (case hd => go_loud (first | (go_simp; done) | (go_simp; rfl))); (case hs => go_loud (first | (go_simp; done) | (go_simp; rfl))); (case hg => exact HG'.out); (case hn => exact HL.out); (case hpos => exact fun _ => ⟨rfl, _, rfl, HCS.out⟩); (case hfit => rw [rowN_len _ _ _ hn2, HL.out]; omega); (case h1 => exact H1.out); (case hb => exact below_drew1 HB'.out); (case hBg => omega); intro w4 HG4 HB4))
      have HG5 := Aside0.mk (show w4.heap[w.heap.size]? = some (.cells (rowN c (n + cs.length) m).toArray 3 (0, 0)) from by
        have := HG4.out
        rw [Hcs.out, rowN_splice c n _ m (by omega)] at this
        rw [HL.out]; exact this)
      clear HG4
      have HB5 := Aside0.mk HB4
      clear HB4
      have hw3 := Aside0.mk (show IntKind.i64.wrap ((n : Int) + (cs.length : Int)) = ((n + cs.length : Nat) : Int) from by rw [IntWalk.i64_in _ (by omega)]; omega)
      clear hw2
      go_simp
      go_wp2
      go_roundw
      case rel => exact ⟨n + cs.length, by omega, hcl2, by rw [hw3.out], HG5, HB5⟩
      case measure => rw [hw3.out]; show m - ((n + cs.length : Nat) : Int).toNat < m - ((n : Nat) : Int).toNat; omega
    · have hl : decide (n < m) = false := decide_eq_false hlt
      have : n = m := by omega
      subst this
      go_wp2
      go_ret
      refine ⟨_, rfl, ?_, HB'.out⟩
      have h := rowN_own c n wr w.heap.size (by omega) HG'.out
      exact h

theorem slices_Repeat_int_int.calls (A0 : Option Addr) (c0 : Nat) (l0 : List Int) (a1 : Int) (r : List Int) (w : World) (hr0 : Kd.C (Kd.int .i64) w A0 l0.length l0) (hc0 : l0.length ≤ c0) (h : slices_Repeat_int_int.f l0 a1 = some r) :
    Calls Try.prog 66 #[.slice A0 l0.length c0, .int .i64 a1] w fun e w' => ∃ v0_ : Value, e = .returned (v0_) ∧ Kd.R (Kd.int .i64) 3 w' w.heap.size (fun _ => True) v0_ r ∧ Below w.heap.size w w' := by
  unfold slices_Repeat_int_int.f at h
  split at h
  · split at h
    · split at h
      · rename_i h1 h2 h3
        obtain ⟨c, rfl⟩ := List.length_eq_one_iff.1 h1
        obtain ⟨m, rfl⟩ := Int.eq_ofNat_of_zero_le (show 0 ≤ a1 by omega)
        obtain rfl := (Option.some.inj h).symm
        obtain ⟨ad, rfl, hc⟩ := (Kd.reads_of_C (d := (0 : Int)) (enc := Value.int .i64) hr0).2.2 (by simp)
        refine rep_calls (fun m w hm1 hm2 => ?_) ad c0 c m w (by omega) (by omega) (hc 0 (by simp))
        refine bits_Mul.calls 1 m 0 m w ?_
        have : m = 1 ∨ m = 2 ∨ m = 3 ∨ m = 4 ∨ m = 5 ∨ m = 6 ∨ m = 7 ∨ m = 8 ∨ m = 9 ∨ m = 10 ∨ m = 11 ∨ m = 12 ∨ m = 13 := by omega
        rcases this with rfl | rfl | rfl | rfl | rfl | rfl | rfl | rfl | rfl | rfl | rfl | rfl | rfl <;> decide
      · exact absurd h (by simp)
    · exact absurd h (by simp)
  · exact absurd h (by simp)


end Go.Proofs.Yteebkkdbkkibmaa.Pr
