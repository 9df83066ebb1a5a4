/- Functions of this claim and what their calls compute, written by wip/tools/mp.py, a variant of the kit printer. Conditions: each theorem has its own. -/
import Derived.Test.YteebkkdbkkibmaaPr0
import Derived.Test.YteebkkdbkkibmaaPr2
import Derived.Test.YteebkkdbkkibmaaPr14
namespace Go.Proofs.Yteebkkdbkkibmaa.Pr
open Go.RowKit Go.Proofs.YteebkkdbkkibmaaW.PrintWords Go.Proofs.YteebkkdbkkibmaaW.PrintLast Go.Proofs.YteebkkdbkkibmaaW.PrintMore
attribute [local go_sem] max2_int min2_int max_two min_two max_three min_three max_four min_four   -- for this text's walks alone
set_option linter.unusedVariables false
set_option linter.unusedSimpArgs false

attribute [local go_sem high] eqA55
/-! ### scarfjointref03_CheckRefute: function 27 -/
mutual
def scarfjointref03_CheckRefute.j0 : Nat → List (S26) → List (S55) → Bool → Option (Bool)
 | 0,_,_,_ => none
 | k + 1,x1,x2,x27 => if x27 = true then (some false) else ((scarfjointref03_arcs.f k x1).bind fun t465 => (scarfjointref03_CheckRefute.l0 k x2 t465 0 0 0 0))
def scarfjointref03_CheckRefute.l0 : Nat → List (S55) → List (S79) → Int → Int → Int → Int → Option (Bool)
 | 0,_,_,_,_,_,_ => none
 | k + 1,x2,x7,x8,x9,x10,x11 => if x11 < (x2.length : Int) then (scarfjointref03_CheckRefute.l1 k x2 x7 x8 x9 x10 x11 false 0) else (if x9 = x8 then (some (decide (x10 < 0))) else (some false))
def scarfjointref03_CheckRefute.l1 : Nat → List (S55) → List (S79) → Int → Int → Int → Int → Bool → Int → Option (Bool)
 | 0,_,_,_,_,_,_,_,_ => none
 | k + 1,x2,x7,x8,x9,x10,x11,x12,x13 => if x13 < (x7.length : Int) then (scarfjointref03_CheckRefute.j3 k x2 x7 x8 x9 x10 x11 x12 x13 (!x12)) else (scarfjointref03_CheckRefute.j3 k x2 x7 x8 x9 x10 x11 x12 x13 false)
def scarfjointref03_CheckRefute.j3 : Nat → List (S55) → List (S79) → Int → Int → Int → Int → Bool → Int → Bool → Option (Bool)
 | 0,_,_,_,_,_,_,_,_,_ => none
 | k + 1,x2,x7,x8,x9,x10,x11,x12,x13,x43 => if x43 = true then (if 0 ≤ x13 then (if x13 < (x7.length : Int) then (if 0 ≤ x11 then (if x11 < (x2.length : Int) then (if (!(((rd_T79 x7 x13).f0.f0) == ((rd_T55 x2 x11).f0)) || (!(((rd_T79 x7 x13).f0.f1) == ((rd_T55 x2 x11).f1)))) = true then (scarfjointref03_CheckRefute.l1 k x2 x7 x8 x9 x10 x11 x12 (wrap64 (x13 + 1))) else (if x11 = 0 then (scarfjointref03_CheckRefute.l1 k x2 x7 ((rd_T79 x7 x13).f1) ((rd_T79 x7 x13).f2) (wrap64 (x10 + ((rd_T79 x7 x13).f3))) x11 (((rd_T79 x7 x13).f1) == ((rd_T79 x7 x13).f1)) (wrap64 (x13 + 1))) else (scarfjointref03_CheckRefute.l1 k x2 x7 x8 ((rd_T79 x7 x13).f2) (wrap64 (x10 + ((rd_T79 x7 x13).f3))) x11 (((rd_T79 x7 x13).f1) == x9) (wrap64 (x13 + 1))))) else (none)) else (none)) else (none)) else (none)) else (if x12 = true then (scarfjointref03_CheckRefute.l0 k x2 x7 x8 x9 x10 (wrap64 (x11 + 1))) else (some false))
end
def scarfjointref03_CheckRefute.f (k : Nat) (a0 : Int) (l1 : List (S26)) (l2 : List (S55)) : Option (Bool):=(scarfjointref03_Valid.f k a0 l1).bind fun t464=>(if t464 = 0 then (if (l2.length : Int) < 1 then (scarfjointref03_CheckRefute.j0 k l1 l2 true) else (scarfjointref03_CheckRefute.j0 k l1 l2 (decide ((l2.length : Int) > 40)))) else (scarfjointref03_CheckRefute.j0 k l1 l2 true))
theorem scarfjointref03_CheckRefute.mono_l : ∀ k,(∀ y0 y1 y2,LeO (scarfjointref03_CheckRefute.j0 k y0 y1 y2) (scarfjointref03_CheckRefute.j0 (k + 1) y0 y1 y2)) ∧ (∀ y0 y1 y2 y3 y4 y5,LeO (scarfjointref03_CheckRefute.l0 k y0 y1 y2 y3 y4 y5) (scarfjointref03_CheckRefute.l0 (k + 1) y0 y1 y2 y3 y4 y5)) ∧ (∀ y0 y1 y2 y3 y4 y5 y6 y7,LeO (scarfjointref03_CheckRefute.l1 k y0 y1 y2 y3 y4 y5 y6 y7) (scarfjointref03_CheckRefute.l1 (k + 1) y0 y1 y2 y3 y4 y5 y6 y7)) ∧ (∀ y0 y1 y2 y3 y4 y5 y6 y7 y8,LeO (scarfjointref03_CheckRefute.j3 k y0 y1 y2 y3 y4 y5 y6 y7 y8) (scarfjointref03_CheckRefute.j3 (k + 1) y0 y1 y2 y3 y4 y5 y6 y7 y8))
 | 0 => ⟨fun _ _ _ r h => by simp [scarfjointref03_CheckRefute.j0] at h,fun _ _ _ _ _ _ r h => by simp [scarfjointref03_CheckRefute.l0] at h,fun _ _ _ _ _ _ _ _ r h => by simp [scarfjointref03_CheckRefute.l1] at h,fun _ _ _ _ _ _ _ _ _ r h => by simp [scarfjointref03_CheckRefute.j3] at h⟩
 | k + 1 => by
  obtain ⟨ih0,ih1,ih2,ih3⟩:=scarfjointref03_CheckRefute.mono_l k
  refine ⟨?_,?_,?_,?_⟩
  ·intro y0 y1 y2
   unfold scarfjointref03_CheckRefute.j0
   repeat' first
   | (with_reducible exact ih0 _ _ _)
   | (with_reducible exact ih1 _ _ _ _ _ _)
   | (with_reducible exact ih2 _ _ _ _ _ _ _ _)
   | (with_reducible exact ih3 _ _ _ _ _ _ _ _ _)
   | (with_reducible exact scarfjointref03_Valid.mono _ _ _)
   | (with_reducible exact scarfjointref03_arcs.mono _ _)
   | (with_reducible exact LeO.refl _)
   | (with_reducible exact LeO.none _)
   | (with_reducible refine LeO.ite ?_ ?_)
   | (with_reducible refine LeO.bind ?_ (fun _ => ?_))
   | exact ih0 _ _ _
   | exact ih1 _ _ _ _ _ _
   | exact ih2 _ _ _ _ _ _ _ _
   | exact ih3 _ _ _ _ _ _ _ _ _
   | exact scarfjointref03_Valid.mono _ _ _
   | exact scarfjointref03_arcs.mono _ _
   | exact LeO.none _
   | refine LeO.ite ?_ ?_
   | refine LeO.bind ?_ (fun _ => ?_)
  ·intro y0 y1 y2 y3 y4 y5
   unfold scarfjointref03_CheckRefute.l0
   repeat' first
   | (with_reducible exact ih0 _ _ _)
   | (with_reducible exact ih1 _ _ _ _ _ _)
   | (with_reducible exact ih2 _ _ _ _ _ _ _ _)
   | (with_reducible exact ih3 _ _ _ _ _ _ _ _ _)
   | (with_reducible exact scarfjointref03_Valid.mono _ _ _)
   | (with_reducible exact scarfjointref03_arcs.mono _ _)
   | (with_reducible exact LeO.refl _)
   | (with_reducible exact LeO.none _)
   | (with_reducible refine LeO.ite ?_ ?_)
   | (with_reducible refine LeO.bind ?_ (fun _ => ?_))
   | exact ih0 _ _ _
   | exact ih1 _ _ _ _ _ _
   | exact ih2 _ _ _ _ _ _ _ _
   | exact ih3 _ _ _ _ _ _ _ _ _
   | exact scarfjointref03_Valid.mono _ _ _
   | exact scarfjointref03_arcs.mono _ _
   | exact LeO.none _
   | refine LeO.ite ?_ ?_
   | refine LeO.bind ?_ (fun _ => ?_)
  ·intro y0 y1 y2 y3 y4 y5 y6 y7
   unfold scarfjointref03_CheckRefute.l1
   repeat' first
   | (with_reducible exact ih0 _ _ _)
   | (with_reducible exact ih1 _ _ _ _ _ _)
   | (with_reducible exact ih2 _ _ _ _ _ _ _ _)
   | (with_reducible exact ih3 _ _ _ _ _ _ _ _ _)
   | (with_reducible exact scarfjointref03_Valid.mono _ _ _)
   | (with_reducible exact scarfjointref03_arcs.mono _ _)
   | (with_reducible exact LeO.refl _)
   | (with_reducible exact LeO.none _)
   | (with_reducible refine LeO.ite ?_ ?_)
   | (with_reducible refine LeO.bind ?_ (fun _ => ?_))
   | exact ih0 _ _ _
   | exact ih1 _ _ _ _ _ _
   | exact ih2 _ _ _ _ _ _ _ _
   | exact ih3 _ _ _ _ _ _ _ _ _
   | exact scarfjointref03_Valid.mono _ _ _
   | exact scarfjointref03_arcs.mono _ _
   | exact LeO.none _
   | refine LeO.ite ?_ ?_
   | refine LeO.bind ?_ (fun _ => ?_)
  ·intro y0 y1 y2 y3 y4 y5 y6 y7 y8
   unfold scarfjointref03_CheckRefute.j3
   repeat' first
   | (with_reducible exact ih0 _ _ _)
   | (with_reducible exact ih1 _ _ _ _ _ _)
   | (with_reducible exact ih2 _ _ _ _ _ _ _ _)
   | (with_reducible exact ih3 _ _ _ _ _ _ _ _ _)
   | (with_reducible exact scarfjointref03_Valid.mono _ _ _)
   | (with_reducible exact scarfjointref03_arcs.mono _ _)
   | (with_reducible exact LeO.refl _)
   | (with_reducible exact LeO.none _)
   | (with_reducible refine LeO.ite ?_ ?_)
   | (with_reducible refine LeO.bind ?_ (fun _ => ?_))
   | exact ih0 _ _ _
   | exact ih1 _ _ _ _ _ _
   | exact ih2 _ _ _ _ _ _ _ _
   | exact ih3 _ _ _ _ _ _ _ _ _
   | exact scarfjointref03_Valid.mono _ _ _
   | exact scarfjointref03_arcs.mono _ _
   | exact LeO.none _
   | refine LeO.ite ?_ ?_
   | refine LeO.bind ?_ (fun _ => ?_)
theorem scarfjointref03_CheckRefute.mono : ∀ a0 a1 a2 k,LeO (scarfjointref03_CheckRefute.f k a0 a1 a2) (scarfjointref03_CheckRefute.f (k + 1) a0 a1 a2):=by
 intro a0 a1 a2 k
 obtain ⟨ih0,ih1,ih2,ih3⟩:=scarfjointref03_CheckRefute.mono_l k
 unfold scarfjointref03_CheckRefute.f
 repeat' first
   | (with_reducible exact ih0 _ _ _)
   | (with_reducible exact ih1 _ _ _ _ _ _)
   | (with_reducible exact ih2 _ _ _ _ _ _ _ _)
   | (with_reducible exact ih3 _ _ _ _ _ _ _ _ _)
   | (with_reducible exact scarfjointref03_Valid.mono _ _ _)
   | (with_reducible exact scarfjointref03_arcs.mono _ _)
   | (with_reducible exact LeO.refl _)
   | (with_reducible exact LeO.none _)
   | (with_reducible refine LeO.ite ?_ ?_)
   | (with_reducible refine LeO.bind ?_ (fun _ => ?_))
   | exact ih0 _ _ _
   | exact ih1 _ _ _ _ _ _
   | exact ih2 _ _ _ _ _ _ _ _
   | exact ih3 _ _ _ _ _ _ _ _ _
   | exact scarfjointref03_Valid.mono _ _ _
   | exact scarfjointref03_arcs.mono _ _
   | exact LeO.none _
   | refine LeO.ite ?_ ?_
   | refine LeO.bind ?_ (fun _ => ?_)
set_option maxHeartbeats 8000000 in
set_option maxRecDepth 100000 in
theorem scarfjointref03_CheckRefute.calls (k : Nat) (a0 : Int) (A1 : Option Addr) (c1 : Nat) (l1 : List (S26)) (A2 : Option Addr) (c2 : Nat) (l2 : List (S55)) (r : Bool) (w : World) (hr1 : Kd.C k26 w A1 l1.length l1) (hc1 : l1.length ≤ c1) (hr2 : Kd.C k55 w A2 l2.length l2) (hc2 : l2.length ≤ c2) (h : scarfjointref03_CheckRefute.f k a0 l1 l2 = some r) :
  Calls Try.prog 27 #[.int .i64 a0,.slice A1 l1.length c1,.slice A2 l2.length c2] w fun e w'=>e = .returned (.bool r) ∧ Below w.heap.size w w':=by
 have hu55:=Try.underlying55
 have HR1:=Aside0.mk hr1
 have HC1:=Aside0.mk hc1
 clear hr1 hc1
 have HR2:=Aside0.mk hr2
 have HC2:=Aside0.mk hc2
 clear hr2 hc2
 have HB:=Aside0.mk (Below.refl w.heap.size w)
 have H : ((scarfjointref03_Valid.f k a0 l1).bind fun t464=>(if t464 = 0 then (if (l2.length : Int) < 1 then (scarfjointref03_CheckRefute.j0 k l1 l2 true) else (scarfjointref03_CheckRefute.j0 k l1 l2 (decide ((l2.length : Int) > 40)))) else (scarfjointref03_CheckRefute.j0 k l1 l2 true))) = some r:=h
 clear h
 have HC4:=Aside0.mk H
 clear H
 go_enter Try.func27,Try.ntmps27
 go_upto_region 1 with (fail)
 go_cut [27] (fun v27 wc=>∃ (kq : Nat) (x27_3 : Bool),v27 = .bool x27_3 ∧ Aside0 (scarfjointref03_CheckRefute.j0 kq l1 l2 x27_3 = some r) ∧ Aside0 (kq ≤ k) ∧ Aside0 (Below w.heap.size w wc))
 case first =>
  have H:=HC4.out
  clear HC4
  replace H:=Option.bind_eq_some_iff.mp H
  obtain ⟨t464,A50,H⟩:=H
  replace H : (if t464 = 0 then (if (l2.length : Int) < 1 then (scarfjointref03_CheckRefute.j0 k l1 l2 true) else (scarfjointref03_CheckRefute.j0 k l1 l2 (decide ((l2.length : Int) > 40)))) else (scarfjointref03_CheckRefute.j0 k l1 l2 true)) = some r:=H
  have A5:=Aside0.mk A50
  clear A50
  by_cases c6 : t464 = 0
  ·rw [if_pos c6] at H
   have c6b0 : (t464 == 0) = true:=beq_iff_eq.mpr c6
   have c6b1 : (t464 != 0) = false:=bne_eq_false_iff_eq.mpr c6
   clear c6
   (first|rw [c6b0]|(simp only [i64_w,i32_w];rw [c6b0])|skip)
   by_cases c7 : (l2.length : Int) < 1
   ·rw [if_pos c7] at H
    have c7b0 : decide ((l2.length : Int) < 1) = true:=decide_eq_true c7
    have c7b1 : decide (l2.length < 1) = true:=decide_eq_true (by omega)
    clear c7
    have H':=Aside0.mk H
    clear H
    go_wp2_with (first|(go_at_call 31;(with_reducible refine (scarfjointref03_Valid.calls k a0 _ _ l1 t464 _ ?side1 ?side2 A5.out).mono ?_);(case side1=>repeat (first|exact (Kd.C_below HR1.out HB.out)|(with_reducible refine Kd.C_alloc ?_ _)|(with_reducible refine Kd.C_drewN ?_ _)|(with_reducible refine Kd.C_drew ?_)));(case side2=>exact HC1.out);rintro e w8 ⟨rfl,hb⟩;have n0_:=Aside0.mk (below_step (by repeat (first|(with_reducible first|exact HB.out|apply below_alloc|apply pw_below_drewN|apply below_drew1)|exact HB.out)) hb);clear HB;have HB:=n0_;clear n0_;(try clear hb);(try clear hb2);(try clear hk);(try clear hi)))
    go_meet
    case rel=>exact ⟨_,(true),(by first|rfl|(simp;done)|(simp [*];done)),H',⟨by first|omega|exact Nat.le_refl _⟩,⟨by repeat (first|(with_reducible first|exact HB.out|apply below_alloc|apply pw_below_drewN|apply below_drew1)|exact HB.out)⟩⟩
   ·rw [if_neg c7] at H
    have c7b0 : decide ((l2.length : Int) < 1) = false:=decide_eq_false c7
    have c7b1 : decide (l2.length < 1) = false:=decide_eq_false (by omega)
    clear c7
    have H':=Aside0.mk H
    clear H
    go_wp2_with (first|(go_at_call 31;(with_reducible refine (scarfjointref03_Valid.calls k a0 _ _ l1 t464 _ ?side1 ?side2 A5.out).mono ?_);(case side1=>repeat (first|exact (Kd.C_below HR1.out HB.out)|(with_reducible refine Kd.C_alloc ?_ _)|(with_reducible refine Kd.C_drewN ?_ _)|(with_reducible refine Kd.C_drew ?_)));(case side2=>exact HC1.out);rintro e w9 ⟨rfl,hb⟩;have n0_:=Aside0.mk (below_step (by repeat (first|(with_reducible first|exact HB.out|apply below_alloc|apply pw_below_drewN|apply below_drew1)|exact HB.out)) hb);clear HB;have HB:=n0_;clear n0_;(try clear hb);(try clear hb2);(try clear hk);(try clear hi)))
    go_meet
    case rel=>exact ⟨_,(decide ((l2.length : Int) > 40)),(by first|rfl|(simp;done)|(simp [*];done)),H',⟨by first|omega|exact Nat.le_refl _⟩,⟨by repeat (first|(with_reducible first|exact HB.out|apply below_alloc|apply pw_below_drewN|apply below_drew1)|exact HB.out)⟩⟩
  ·rw [if_neg c6] at H
   have c6b0 : (t464 == 0) = false:=beq_eq_false_iff_ne.mpr c6
   have c6b1 : (t464 != 0) = true:=bne_iff_ne.mpr c6
   (first|rw [c6b0]|(simp only [i64_w,i32_w];rw [c6b0])|skip)
   have H':=Aside0.mk H
   clear H
   go_wp2_with (first|(go_at_call 31;(with_reducible refine (scarfjointref03_Valid.calls k a0 _ _ l1 t464 _ ?side1 ?side2 A5.out).mono ?_);(case side1=>repeat (first|exact (Kd.C_below HR1.out HB.out)|(with_reducible refine Kd.C_alloc ?_ _)|(with_reducible refine Kd.C_drewN ?_ _)|(with_reducible refine Kd.C_drew ?_)));(case side2=>exact HC1.out);rintro e w10 ⟨rfl,hb⟩;have n0_:=Aside0.mk (below_step (by repeat (first|(with_reducible first|exact HB.out|apply below_alloc|apply pw_below_drewN|apply below_drew1)|exact HB.out)) hb);clear HB;have HB:=n0_;clear n0_;(try clear hb);(try clear hb2);(try clear hk);(try clear hi)))
   go_meet
   case rel=>exact ⟨_,(true),(by first|rfl|(simp;done)|(simp [*];done)),H',⟨by first|omega|exact Nat.le_refl _⟩,⟨by repeat (first|(with_reducible first|exact HB.out|apply below_alloc|apply pw_below_drewN|apply below_drew1)|exact HB.out)⟩⟩
 case rest =>
  clear HC4
  try clear c1
  try clear c2
  try clear p2
  try clear c6
  try clear c6b0
  try clear c6b1
  try clear c7
  try clear c7b0
  try clear c7b1
  obtain ⟨kq,x27_3,rfl,HA,HJ3,HB⟩:=hcut
  cases kq with
  | zero => exact absurd HA.out (by simp [scarfjointref03_CheckRefute.j0])
  | succ kj3 =>
   have H:=HA.out
   clear HA
   simp only [scarfjointref03_CheckRefute.j0] at H
   by_cases c11 : x27_3 = true
   ·subst c11
    have H1 : (some false) = some r:=by rw [if_pos rfl] at H;exact H
    clear H
    have H:=H1
    clear H1
    obtain rfl:=Option.some.inj H
    go_wp2
    go_ret
    exact ⟨by first|rfl|(simp [errW_none,errW_some] <;> rfl)|(simp [*,errW_none,errW_some] <;> rfl),by repeat (first|(with_reducible first|exact HB.out|apply below_alloc|apply pw_below_drewN|apply below_drew1)|exact HB.out)⟩
   ·replace c11:=Bool.eq_false_iff.mpr c11
    subst c11
    have H1 : ((scarfjointref03_arcs.f kj3 l1).bind fun t465=>(scarfjointref03_CheckRefute.l0 kj3 l2 t465 0 0 0 0)) = some r:=by rw [if_neg (show ¬ (false = true) by decide)] at H;exact H
    clear H
    have H:=H1
    clear H1
    replace H:=Option.bind_eq_some_iff.mp H
    obtain ⟨t465,A120,H⟩:=H
    replace H : (scarfjointref03_CheckRefute.l0 kj3 l2 t465 0 0 0 0) = some r:=H
    have A12:=Aside0.mk A120
    clear A120
    have H':=Aside0.mk H
    clear H
    go_wp2_with (first|(go_at_call 45;(with_reducible refine (scarfjointref03_arcs.calls kj3 _ _ l1 t465 _ ?side1 ?side2 A12.out).mono ?_);(case side1=>repeat (first|exact (Kd.C_below HR1.out HB.out)|(with_reducible refine Kd.C_alloc ?_ _)|(with_reducible refine Kd.C_drewN ?_ _)|(with_reducible refine Kd.C_drew ?_)));(case side2=>exact HC1.out);rintro e w13 ⟨v466,rfl,ho0,hb⟩;have n0_:=Aside0.mk (Kd.R_lower ho0 (below_size (by repeat (first|(with_reducible first|exact HB.out|apply below_alloc|apply pw_below_drewN|apply below_drew1)|exact HB.out))));have n1_:=Aside0.mk (below_step (by repeat (first|(with_reducible first|exact HB.out|apply below_alloc|apply pw_below_drewN|apply below_drew1)|exact HB.out)) hb);clear HB;have HO467:=n0_;have HB:=n1_;clear n0_ n1_;(try clear hb);(try clear hb2);(try clear hk);(try clear hi);(try clear ho0)))
    go_loopg [8,9,10,11] kj3 (fun kq v8 v9 v10 v11 w'=>∃ (x8_2 : Int) (x9_2 : Int) (x10_2 : Int) (x11_2 : Int),v8 = .int .i64 x8_2 ∧ v9 = .int .i64 x9_2 ∧ v10 = .int .i64 x10_2 ∧ v11 = .int .i64 x11_2 ∧ Aside0 (scarfjointref03_CheckRefute.l0 kq l2 t465 x8_2 x9_2 x10_2 x11_2 = some r) ∧ Aside0 (kq ≤ kj3) ∧ Aside0 (Kd.R k79 79 w' w.heap.size (fun _=>True) v466 t465) ∧ Aside0 (Below w.heap.size w w'))
    case atStart=>exact ⟨(0),(0),(0),(0),(by first|rfl|(simp;done)|(simp [*];done)),(by first|rfl|(simp;done)|(simp [*];done)),(by first|rfl|(simp;done)|(simp [*];done)),(by first|rfl|(simp;done)|(simp [*];done)),H',⟨Nat.le_refl _⟩,⟨by (with_reducible repeat (first|apply Kd.R_alloc|apply Kd.R_drewN|apply Kd.R_drew));exact HO467.out⟩,⟨by repeat (first|(with_reducible first|exact HB.out|apply below_alloc|apply pw_below_drewN|apply below_drew1)|exact HB.out)⟩⟩
    case round =>
     clear H'
     try clear c1
     try clear c2
     try clear p2
     try clear c6
     try clear c6b0
     try clear c6b1
     try clear c7
     try clear c7b0
     try clear c7b1
     try clear c11
     try clear p2
     obtain ⟨x8_2,x9_2,x10_2,x11_2,rfl,rfl,rfl,rfl,HA,HK2,HO_7,HB⟩:=hrel
     cases gk with
     | zero => exact absurd HA.out (by simp [scarfjointref03_CheckRefute.l0])
     | succ k2 =>
      have H:=HA.out
      clear HA
      simp only [scarfjointref03_CheckRefute.l0] at H
      by_cases c14 : x11_2 < (l2.length : Int)
      ·rw [if_pos c14] at H
       have c14b0 : decide (x11_2 < (l2.length : Int)) = true:=decide_eq_true c14
       clear c14
       have H':=Aside0.mk H
       clear H
       go_wp2
       go_loopg [8,9,10,12,13] k2 (fun kq v8 v9 v10 v12 v13 w'=>∃ (x8_3 : Int) (x9_3 : Int) (x10_3 : Int) (x12_3 : Bool) (x13_3 : Int),v8 = .int .i64 x8_3 ∧ v9 = .int .i64 x9_3 ∧ v10 = .int .i64 x10_3 ∧ v12 = .bool x12_3 ∧ v13 = .int .i64 x13_3 ∧ Aside0 (scarfjointref03_CheckRefute.l1 kq l2 t465 x8_3 x9_3 x10_3 x11_2 x12_3 x13_3 = some r) ∧ Aside0 (kq ≤ k2) ∧ Aside0 (Kd.R k79 79 w' w.heap.size (fun _=>True) v466 t465) ∧ Aside0 (Below w.heap.size w w'))
       case atStart=>exact ⟨(x8_2),(x9_2),(x10_2),(false),(0),(by first|rfl|(simp;done)|(simp [*];done)),(by first|rfl|(simp;done)|(simp [*];done)),(by first|rfl|(simp;done)|(simp [*];done)),(by first|rfl|(simp;done)|(simp [*];done)),(by first|rfl|(simp;done)|(simp [*];done)),H',⟨Nat.le_refl _⟩,⟨by (with_reducible repeat (first|apply Kd.R_alloc|apply Kd.R_drewN|apply Kd.R_drew));exact HO_7.out⟩,⟨by repeat (first|(with_reducible first|exact HB.out|apply below_alloc|apply pw_below_drewN|apply below_drew1)|exact HB.out)⟩⟩
       case round =>
        clear H'
        try clear c1
        try clear c2
        try clear p2
        try clear c6
        try clear c6b0
        try clear c6b1
        try clear c7
        try clear c7b0
        try clear c7b1
        try clear c11
        try clear c14
        try clear c14b0
        try clear p2
        obtain ⟨x8_3,x9_3,x10_3,x12_3,x13_3,rfl,rfl,rfl,rfl,rfl,HA,HK3,HO_7,HB⟩:=hrel
        cases gk with
        | zero => exact absurd HA.out (by simp [scarfjointref03_CheckRefute.l1])
        | succ k3 =>
         have H:=HA.out
         clear HA
         simp only [scarfjointref03_CheckRefute.l1] at H
         have HC15:=Aside0.mk H
         clear H
         go_upto_region 10 with (fail)
         go_cut [43] (fun v43 wc=>∃ (kq : Nat) (x43_14 : Bool),v43 = .bool x43_14 ∧ Aside0 (scarfjointref03_CheckRefute.j3 kq l2 t465 x8_3 x9_3 x10_3 x11_2 x12_3 x13_3 x43_14 = some r) ∧ Aside0 (kq ≤ k3) ∧ Aside0 (Kd.R k79 79 wc w.heap.size (fun _=>True) v466 t465) ∧ Aside0 (Below w.heap.size w wc))
         case first =>
          have H:=HC15.out
          clear HC15
          by_cases c16 : x13_3 < (t465.length : Int)
          ·rw [if_pos c16] at H
           have c16b0 : decide (x13_3 < (t465.length : Int)) = true:=decide_eq_true c16
           clear c16
           (first|rw [c16b0]|(simp only [i64_w,i32_w];rw [c16b0])|skip)
           have H':=Aside0.mk H
           clear H
           obtain ⟨Ao17,co17,eo17⟩:=Kd.R_slice HO_7.out
           subst eo17
           go_wp2
           go_meet
           case rel=>exact ⟨_,(!x12_3),(by first|rfl|(simp;done)|(simp [*];done)),H',⟨by have:=HJ3.out;have:=HK2.out;have:=HK3.out;first|omega|exact Nat.le_refl _⟩,⟨by (with_reducible repeat (first|apply Kd.R_alloc|apply Kd.R_drewN|apply Kd.R_drew));exact HO_7.out⟩,⟨by repeat (first|(with_reducible first|exact HB.out|apply below_alloc|apply pw_below_drewN|apply below_drew1)|exact HB.out)⟩⟩
          ·rw [if_neg c16] at H
           have c16b0 : decide (x13_3 < (t465.length : Int)) = false:=decide_eq_false c16
           clear c16
           (first|rw [c16b0]|(simp only [i64_w,i32_w];rw [c16b0])|skip)
           have H':=Aside0.mk H
           clear H
           obtain ⟨Ao18,co18,eo18⟩:=Kd.R_slice HO_7.out
           subst eo18
           go_wp2
           go_meet
           case rel=>exact ⟨_,(false),(by first|rfl|(simp;done)|(simp [*];done)),H',⟨by have:=HJ3.out;have:=HK2.out;have:=HK3.out;first|omega|exact Nat.le_refl _⟩,⟨by (with_reducible repeat (first|apply Kd.R_alloc|apply Kd.R_drewN|apply Kd.R_drew));exact HO_7.out⟩,⟨by repeat (first|(with_reducible first|exact HB.out|apply below_alloc|apply pw_below_drewN|apply below_drew1)|exact HB.out)⟩⟩
         case rest =>
          clear HC15
          try clear c1
          try clear c2
          try clear p2
          try clear c6
          try clear c6b0
          try clear c6b1
          try clear c7
          try clear c7b0
          try clear c7b1
          try clear c11
          try clear c14
          try clear c14b0
          try clear c16
          try clear c16b0
          try clear p2
          obtain ⟨kq,x43_14,rfl,HA,HJ14,HO_7,HB⟩:=hcut
          cases kq with
          | zero => exact absurd HA.out (by simp [scarfjointref03_CheckRefute.j3])
          | succ kj14 =>
           have H:=HA.out
           clear HA
           simp only [scarfjointref03_CheckRefute.j3] at H
           by_cases c19 : x43_14 = true
           ·subst c19
            have H1 : (if 0 ≤ x13_3 then (if x13_3 < (t465.length : Int) then (if 0 ≤ x11_2 then (if x11_2 < (l2.length : Int) then (if (!(((rd_T79 t465 x13_3).f0.f0) == ((rd_T55 l2 x11_2).f0)) || (!(((rd_T79 t465 x13_3).f0.f1) == ((rd_T55 l2 x11_2).f1)))) = true then (scarfjointref03_CheckRefute.l1 kj14 l2 t465 x8_3 x9_3 x10_3 x11_2 x12_3 (wrap64 (x13_3 + 1))) else (if x11_2 = 0 then (scarfjointref03_CheckRefute.l1 kj14 l2 t465 ((rd_T79 t465 x13_3).f1) ((rd_T79 t465 x13_3).f2) (wrap64 (x10_3 + ((rd_T79 t465 x13_3).f3))) x11_2 (((rd_T79 t465 x13_3).f1) == ((rd_T79 t465 x13_3).f1)) (wrap64 (x13_3 + 1))) else (scarfjointref03_CheckRefute.l1 kj14 l2 t465 x8_3 ((rd_T79 t465 x13_3).f2) (wrap64 (x10_3 + ((rd_T79 t465 x13_3).f3))) x11_2 (((rd_T79 t465 x13_3).f1) == x9_3) (wrap64 (x13_3 + 1))))) else (none)) else (none)) else (none)) else (none)) = some r:=by rw [if_pos rfl] at H;exact H
            clear H
            have H:=H1
            clear H1
            by_cases c20 : 0 ≤ x13_3
            ·rw [if_pos c20] at H
             have c20b0 : decide (0 ≤ x13_3) = true:=decide_eq_true c20
             clear c20
             by_cases c21 : x13_3 < (t465.length : Int)
             ·rw [if_pos c21] at H
              have c21b0 : decide (x13_3 < (t465.length : Int)) = true:=decide_eq_true c21
              clear c21
              by_cases c22 : 0 ≤ x11_2
              ·rw [if_pos c22] at H
               have c22b0 : decide (0 ≤ x11_2) = true:=decide_eq_true c22
               clear c22
               by_cases c23 : x11_2 < (l2.length : Int)
               ·rw [if_pos c23] at H
                have c23b0 : decide (x11_2 < (l2.length : Int)) = true:=decide_eq_true c23
                clear c23
                by_cases c24 : (!(((rd_T79 t465 x13_3).f0.f0) == ((rd_T55 l2 x11_2).f0)) || (!(((rd_T79 t465 x13_3).f0.f1) == ((rd_T55 l2 x11_2).f1)))) = true
                ·rw [if_pos c24] at H
                 have c24b0 : (!(((rd_T79 t465 x13_3).f0.f0) == ((rd_T55 l2 x11_2).f0)) || (!(((rd_T79 t465 x13_3).f0.f1) == ((rd_T55 l2 x11_2).f1)))) = true:=c24
                 clear c24
                 have H':=Aside0.mk H
                 clear H
                 obtain ⟨Ao25,co25,eo25⟩:=Kd.R_slice HO_7.out
                 subst eo25
                 have p468 : 0 ≤ (x13_3 : Int):=of_decide_eq_true (by first|(with_reducible assumption)|assumption)
                 have q468 : x13_3 < (t465.length : Int):=of_decide_eq_true (by first|(with_reducible assumption)|assumption)
                 obtain ⟨ad468,e468,hx468_0,hx468_1,hx468_2,hx468_3,hx468_4⟩:=at_T79 (Kd.R_reads' HO_7.out).2.2 x13_3 p468 q468
                 cases e468
                 replace p468:=eq_true p468
                 replace q468:=eq_true q468
                 have p469 : 0 ≤ (x11_2 : Int):=of_decide_eq_true (by first|(with_reducible assumption)|assumption)
                 have q469 : x11_2 < (l2.length : Int):=of_decide_eq_true (by first|(with_reducible assumption)|assumption)
                 obtain ⟨ad469,e469,hx469_0,hx469_1⟩:=at_T55 HR2.out x11_2 p469 q469
                 cases e469
                 replace hx469_0:=(HB.out.cell (World.block_lt_of_cell? w _ hx469_0)).trans hx469_0
                 replace hx469_1:=(HB.out.cell (World.block_lt_of_cell? w _ hx469_1)).trans hx469_1
                 replace p469:=eq_true p469
                 replace q469:=eq_true q469
                 go_wp2
                 repeat (go_quiet (fail);try go_wp2)
                 go_roundg kj14
                 case measure=>have:=HJ3.out;have:=HK2.out;have:=HK3.out;have:=HJ14.out;omega
                 case rel=>exact ⟨(x8_3),(x9_3),(x10_3),(x12_3),(wrap64 (x13_3 + 1)),(by first|rfl|(simp;done)|(simp [*];done)),(by first|rfl|(simp;done)|(simp [*];done)),(by first|rfl|(simp;done)|(simp [*];done)),(by first|rfl|(simp;done)|(simp [*];done)),(by first|rfl|(simp;done)|(simp [*];done)),H',⟨by have:=HJ3.out;have:=HK2.out;have:=HK3.out;have:=HJ14.out;omega⟩,⟨by (with_reducible repeat (first|apply Kd.R_alloc|apply Kd.R_drewN|apply Kd.R_drew));exact HO_7.out⟩,⟨by repeat (first|(with_reducible first|exact HB.out|apply below_alloc|apply pw_below_drewN|apply below_drew1)|exact HB.out)⟩⟩
                ·rw [if_neg c24] at H
                 have c24b0 : (!(((rd_T79 t465 x13_3).f0.f0) == ((rd_T55 l2 x11_2).f0)) || (!(((rd_T79 t465 x13_3).f0.f1) == ((rd_T55 l2 x11_2).f1)))) = false:=by simpa using c24
                 clear c24
                 by_cases c26 : x11_2 = 0
                 ·rw [if_pos c26] at H
                  have c26b0 : (x11_2 == 0) = true:=beq_iff_eq.mpr c26
                  have c26b1 : (x11_2 != 0) = false:=bne_eq_false_iff_eq.mpr c26
                  clear c26
                  have H':=Aside0.mk H
                  clear H
                  obtain ⟨Ao27,co27,eo27⟩:=Kd.R_slice HO_7.out
                  subst eo27
                  have p468 : 0 ≤ (x13_3 : Int):=of_decide_eq_true (by first|(with_reducible assumption)|assumption)
                  have q468 : x13_3 < (t465.length : Int):=of_decide_eq_true (by first|(with_reducible assumption)|assumption)
                  obtain ⟨ad468,e468,hx468_0,hx468_1,hx468_2,hx468_3,hx468_4⟩:=at_T79 (Kd.R_reads' HO_7.out).2.2 x13_3 p468 q468
                  cases e468
                  replace p468:=eq_true p468
                  replace q468:=eq_true q468
                  have p469 : 0 ≤ (x11_2 : Int):=of_decide_eq_true (by first|(with_reducible assumption)|assumption)
                  have q469 : x11_2 < (l2.length : Int):=of_decide_eq_true (by first|(with_reducible assumption)|assumption)
                  obtain ⟨ad469,e469,hx469_0,hx469_1⟩:=at_T55 HR2.out x11_2 p469 q469
                  cases e469
                  replace hx469_0:=(HB.out.cell (World.block_lt_of_cell? w _ hx469_0)).trans hx469_0
                  replace hx469_1:=(HB.out.cell (World.block_lt_of_cell? w _ hx469_1)).trans hx469_1
                  replace p469:=eq_true p469
                  replace q469:=eq_true q469
                  have p470 : 0 ≤ (x13_3 : Int):=of_decide_eq_true (by first|(with_reducible assumption)|assumption)
                  have q470 : x13_3 < (t465.length : Int):=of_decide_eq_true (by first|(with_reducible assumption)|assumption)
                  obtain ⟨ad470,e470,hx470_0,hx470_1,hx470_2,hx470_3,hx470_4⟩:=at_T79 (Kd.R_reads' HO_7.out).2.2 x13_3 p470 q470
                  obtain rfl : ad468 = ad470:=(by injection e470)
                  replace p470:=eq_true p470
                  replace q470:=eq_true q470
                  have p471 : 0 ≤ (x13_3 : Int):=of_decide_eq_true (by first|(with_reducible assumption)|assumption)
                  have q471 : x13_3 < (t465.length : Int):=of_decide_eq_true (by first|(with_reducible assumption)|assumption)
                  obtain ⟨ad471,e471,hx471_0,hx471_1,hx471_2,hx471_3,hx471_4⟩:=at_T79 (Kd.R_reads' HO_7.out).2.2 x13_3 p471 q471
                  obtain rfl : ad468 = ad471:=(by injection e471)
                  replace p471:=eq_true p471
                  replace q471:=eq_true q471
                  have p472 : 0 ≤ (x13_3 : Int):=of_decide_eq_true (by first|(with_reducible assumption)|assumption)
                  have q472 : x13_3 < (t465.length : Int):=of_decide_eq_true (by first|(with_reducible assumption)|assumption)
                  obtain ⟨ad472,e472,hx472_0,hx472_1,hx472_2,hx472_3,hx472_4⟩:=at_T79 (Kd.R_reads' HO_7.out).2.2 x13_3 p472 q472
                  obtain rfl : ad468 = ad472:=(by injection e472)
                  replace p472:=eq_true p472
                  replace q472:=eq_true q472
                  have p473 : 0 ≤ (x13_3 : Int):=of_decide_eq_true (by first|(with_reducible assumption)|assumption)
                  have q473 : x13_3 < (t465.length : Int):=of_decide_eq_true (by first|(with_reducible assumption)|assumption)
                  obtain ⟨ad473,e473,hx473_0,hx473_1,hx473_2,hx473_3,hx473_4⟩:=at_T79 (Kd.R_reads' HO_7.out).2.2 x13_3 p473 q473
                  obtain rfl : ad468 = ad473:=(by injection e473)
                  replace p473:=eq_true p473
                  replace q473:=eq_true q473
                  have p474 : 0 ≤ (x13_3 : Int):=of_decide_eq_true (by first|(with_reducible assumption)|assumption)
                  have q474 : x13_3 < (t465.length : Int):=of_decide_eq_true (by first|(with_reducible assumption)|assumption)
                  obtain ⟨ad474,e474,hx474_0,hx474_1,hx474_2,hx474_3,hx474_4⟩:=at_T79 (Kd.R_reads' HO_7.out).2.2 x13_3 p474 q474
                  obtain rfl : ad468 = ad474:=(by injection e474)
                  replace p474:=eq_true p474
                  replace q474:=eq_true q474
                  go_wp2
                  repeat (go_quiet (fail);try go_wp2)
                  go_roundg kj14
                  case measure=>have:=HJ3.out;have:=HK2.out;have:=HK3.out;have:=HJ14.out;omega
                  case rel=>exact ⟨((rd_T79 t465 x13_3).f1),((rd_T79 t465 x13_3).f2),(wrap64 (x10_3 + ((rd_T79 t465 x13_3).f3))),((((rd_T79 t465 x13_3).f1) == ((rd_T79 t465 x13_3).f1))),(wrap64 (x13_3 + 1)),(by first|rfl|(simp;done)|(simp [*];done)),(by first|rfl|(simp;done)|(simp [*];done)),(by first|rfl|(simp;done)|(simp [*];done)),(by first|rfl|(simp;done)|(simp [*];done)),(by first|rfl|(simp;done)|(simp [*];done)),H',⟨by have:=HJ3.out;have:=HK2.out;have:=HK3.out;have:=HJ14.out;omega⟩,⟨by (with_reducible repeat (first|apply Kd.R_alloc|apply Kd.R_drewN|apply Kd.R_drew));exact HO_7.out⟩,⟨by repeat (first|(with_reducible first|exact HB.out|apply below_alloc|apply pw_below_drewN|apply below_drew1)|exact HB.out)⟩⟩
                 ·rw [if_neg c26] at H
                  have c26b0 : (x11_2 == 0) = false:=beq_eq_false_iff_ne.mpr c26
                  have c26b1 : (x11_2 != 0) = true:=bne_iff_ne.mpr c26
                  have H':=Aside0.mk H
                  clear H
                  obtain ⟨Ao28,co28,eo28⟩:=Kd.R_slice HO_7.out
                  subst eo28
                  have p468 : 0 ≤ (x13_3 : Int):=of_decide_eq_true (by first|(with_reducible assumption)|assumption)
                  have q468 : x13_3 < (t465.length : Int):=of_decide_eq_true (by first|(with_reducible assumption)|assumption)
                  obtain ⟨ad468,e468,hx468_0,hx468_1,hx468_2,hx468_3,hx468_4⟩:=at_T79 (Kd.R_reads' HO_7.out).2.2 x13_3 p468 q468
                  cases e468
                  replace p468:=eq_true p468
                  replace q468:=eq_true q468
                  have p469 : 0 ≤ (x11_2 : Int):=of_decide_eq_true (by first|(with_reducible assumption)|assumption)
                  have q469 : x11_2 < (l2.length : Int):=of_decide_eq_true (by first|(with_reducible assumption)|assumption)
                  obtain ⟨ad469,e469,hx469_0,hx469_1⟩:=at_T55 HR2.out x11_2 p469 q469
                  cases e469
                  replace hx469_0:=(HB.out.cell (World.block_lt_of_cell? w _ hx469_0)).trans hx469_0
                  replace hx469_1:=(HB.out.cell (World.block_lt_of_cell? w _ hx469_1)).trans hx469_1
                  replace p469:=eq_true p469
                  replace q469:=eq_true q469
                  have p475 : 0 ≤ (x13_3 : Int):=of_decide_eq_true (by first|(with_reducible assumption)|assumption)
                  have q475 : x13_3 < (t465.length : Int):=of_decide_eq_true (by first|(with_reducible assumption)|assumption)
                  obtain ⟨ad475,e475,hx475_0,hx475_1,hx475_2,hx475_3,hx475_4⟩:=at_T79 (Kd.R_reads' HO_7.out).2.2 x13_3 p475 q475
                  obtain rfl : ad468 = ad475:=(by injection e475)
                  replace p475:=eq_true p475
                  replace q475:=eq_true q475
                  have p476 : 0 ≤ (x13_3 : Int):=of_decide_eq_true (by first|(with_reducible assumption)|assumption)
                  have q476 : x13_3 < (t465.length : Int):=of_decide_eq_true (by first|(with_reducible assumption)|assumption)
                  obtain ⟨ad476,e476,hx476_0,hx476_1,hx476_2,hx476_3,hx476_4⟩:=at_T79 (Kd.R_reads' HO_7.out).2.2 x13_3 p476 q476
                  obtain rfl : ad468 = ad476:=(by injection e476)
                  replace p476:=eq_true p476
                  replace q476:=eq_true q476
                  have p477 : 0 ≤ (x13_3 : Int):=of_decide_eq_true (by first|(with_reducible assumption)|assumption)
                  have q477 : x13_3 < (t465.length : Int):=of_decide_eq_true (by first|(with_reducible assumption)|assumption)
                  obtain ⟨ad477,e477,hx477_0,hx477_1,hx477_2,hx477_3,hx477_4⟩:=at_T79 (Kd.R_reads' HO_7.out).2.2 x13_3 p477 q477
                  obtain rfl : ad468 = ad477:=(by injection e477)
                  replace p477:=eq_true p477
                  replace q477:=eq_true q477
                  go_wp2
                  repeat (go_quiet (fail);try go_wp2)
                  go_roundg kj14
                  case measure=>have:=HJ3.out;have:=HK2.out;have:=HK3.out;have:=HJ14.out;omega
                  case rel=>exact ⟨(x8_3),((rd_T79 t465 x13_3).f2),(wrap64 (x10_3 + ((rd_T79 t465 x13_3).f3))),((((rd_T79 t465 x13_3).f1) == x9_3)),(wrap64 (x13_3 + 1)),(by first|rfl|(simp;done)|(simp [*];done)),(by first|rfl|(simp;done)|(simp [*];done)),(by first|rfl|(simp;done)|(simp [*];done)),(by first|rfl|(simp;done)|(simp [*];done)),(by first|rfl|(simp;done)|(simp [*];done)),H',⟨by have:=HJ3.out;have:=HK2.out;have:=HK3.out;have:=HJ14.out;omega⟩,⟨by (with_reducible repeat (first|apply Kd.R_alloc|apply Kd.R_drewN|apply Kd.R_drew));exact HO_7.out⟩,⟨by repeat (first|(with_reducible first|exact HB.out|apply below_alloc|apply pw_below_drewN|apply below_drew1)|exact HB.out)⟩⟩
               ·rw [if_neg c23] at H
                exact absurd H (by simp)
              ·rw [if_neg c22] at H
               exact absurd H (by simp)
             ·rw [if_neg c21] at H
              exact absurd H (by simp)
            ·rw [if_neg c20] at H
             exact absurd H (by simp)
           ·replace c19:=Bool.eq_false_iff.mpr c19
            subst c19
            have H1 : (if x12_3 = true then (scarfjointref03_CheckRefute.l0 kj14 l2 t465 x8_3 x9_3 x10_3 (wrap64 (x11_2 + 1))) else (some false)) = some r:=by rw [if_neg (show ¬ (false = true) by decide)] at H;exact H
            clear H
            have H:=H1
            clear H1
            by_cases c29 : x12_3 = true
            ·subst c29
             have H1 : (scarfjointref03_CheckRefute.l0 kj14 l2 t465 x8_3 x9_3 x10_3 (wrap64 (x11_2 + 1))) = some r:=by rw [if_pos rfl] at H;exact H
             clear H
             have H:=H1
             clear H1
             have H':=Aside0.mk H
             clear H
             go_wp2
             go_roundg kj14
             case measure=>have:=HJ3.out;have:=HK2.out;have:=HK3.out;have:=HJ14.out;omega
             case rel=>exact ⟨(x8_3),(x9_3),(x10_3),(wrap64 (x11_2 + 1)),(by first|rfl|(simp;done)|(simp [*];done)),(by first|rfl|(simp;done)|(simp [*];done)),(by first|rfl|(simp;done)|(simp [*];done)),(by first|rfl|(simp;done)|(simp [*];done)),H',⟨by have:=HJ3.out;have:=HK2.out;have:=HK3.out;have:=HJ14.out;omega⟩,⟨by (with_reducible repeat (first|apply Kd.R_alloc|apply Kd.R_drewN|apply Kd.R_drew));exact HO_7.out⟩,⟨by repeat (first|(with_reducible first|exact HB.out|apply below_alloc|apply pw_below_drewN|apply below_drew1)|exact HB.out)⟩⟩
            ·replace c29:=Bool.eq_false_iff.mpr c29
             subst c29
             have H1 : (some false) = some r:=by rw [if_neg (show ¬ (false = true) by decide)] at H;exact H
             clear H
             have H:=H1
             clear H1
             obtain rfl:=Option.some.inj H
             go_wp2
             go_ret
             exact ⟨by first|rfl|(simp [errW_none,errW_some] <;> rfl)|(simp [*,errW_none,errW_some] <;> rfl),by repeat (first|(with_reducible first|exact HB.out|apply below_alloc|apply pw_below_drewN|apply below_drew1)|exact HB.out)⟩
      ·rw [if_neg c14] at H
       have c14b0 : decide (x11_2 < (l2.length : Int)) = false:=decide_eq_false c14
       clear c14
       by_cases c30 : x9_2 = x8_2
       ·rw [if_pos c30] at H
        have c30b0 : (x9_2 == x8_2) = true:=beq_iff_eq.mpr c30
        have c30b1 : (x9_2 != x8_2) = false:=bne_eq_false_iff_eq.mpr c30
        clear c30
        obtain rfl:=Option.some.inj H
        go_wp2
        go_ret
        exact ⟨by first|rfl|(simp [errW_none,errW_some] <;> rfl)|(simp [*,errW_none,errW_some] <;> rfl),by repeat (first|(with_reducible first|exact HB.out|apply below_alloc|apply pw_below_drewN|apply below_drew1)|exact HB.out)⟩
       ·rw [if_neg c30] at H
        have c30b0 : (x9_2 == x8_2) = false:=beq_eq_false_iff_ne.mpr c30
        have c30b1 : (x9_2 != x8_2) = true:=bne_iff_ne.mpr c30
        obtain rfl:=Option.some.inj H
        go_wp2
        go_ret
        exact ⟨by first|rfl|(simp [errW_none,errW_some] <;> rfl)|(simp [*,errW_none,errW_some] <;> rfl),by repeat (first|(with_reducible first|exact HB.out|apply below_alloc|apply pw_below_drewN|apply below_drew1)|exact HB.out)⟩

end Go.Proofs.Yteebkkdbkkibmaa.Pr
