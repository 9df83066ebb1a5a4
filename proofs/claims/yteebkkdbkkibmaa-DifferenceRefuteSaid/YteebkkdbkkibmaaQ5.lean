/- Functions of this claim and what their calls compute, written by wip/tools/mp.py, a variant of the kit printer. Conditions: each theorem has its own. -/
import Derived.Test.YteebkkdbkkibmaaPr0
import Derived.Test.YteebkkdbkkibmaaPr4
import Derived.Test.YteebkkdbkkibmaaQ4
namespace Go.Proofs.Yteebkkdbkkibmaa.Pr
open Go.RowKit Go.Proofs.YteebkkdbkkibmaaW.PrintWords Go.Proofs.YteebkkdbkkibmaaW.PrintLast Go.Proofs.YteebkkdbkkibmaaW.PrintMore
attribute [local go_sem] max2_int min2_int max_two min_two max_three min_three max_four min_four   -- for this text's walks alone
set_option linter.unusedVariables false
set_option linter.unusedSimpArgs false

/-! ### difference_CheckRefute: function 25 -/
mutual
def difference_CheckRefute.j0 : Nat → List (S26) → List (S55) → Bool → Option (Bool)
 | 0,_,_,_ => none
 | k + 1,x1,x2,x29 => if x29 = true then (some false) else ((difference_arcs.f k x1).bind fun t498 => (difference_CheckRefute.l0 k t498 ([] : List (S71)) 0 x2 (x2.length : Int) 0))
def difference_CheckRefute.l0 : Nat → List (S71) → List (S71) → Int → List (S55) → Int → Int → Option (Bool)
 | 0,_,_,_,_,_,_ => none
 | k + 1,x7,x8,x9,x32,x33,x34 => if x34 < x33 then (if 0 ≤ x34 then (if x34 < (x32.length : Int) then ((difference_arc_53.f k x7 ((rd_T55 x32 x34).f0) ((rd_T55 x32 x34).f1)).bind fun t503 => (if t503 < 0 then (some false) else (if 0 ≤ t503 then (if t503 < (x7.length : Int) then (if x8.length < 3518437208883 then (difference_CheckRefute.l0 k x7 (x8 ++ [(⟨(⟨(rd_T71 x7 t503).f0.f0,(rd_T71 x7 t503).f0.f1⟩ : S55),(rd_T71 x7 t503).f1,(rd_T71 x7 t503).f2,(rd_T71 x7 t503).f3⟩ : S71)]) (wrap64 (x9 + ((rd_T71 x7 t503).f3))) x32 x33 (wrap64 (x34 + 1))) else (none)) else (none)) else (none)))) else (none)) else (none)) else (if 0 ≤ (wrap64 ((x8.length : Int) - 1)) then (if (wrap64 ((x8.length : Int) - 1)) < (x8.length : Int) then (difference_CheckRefute.l1 k x9 x8 (x8.length : Int) 0 ((rd_T71 x8 (wrap64 ((x8.length : Int) - 1))).f0.f0) ((rd_T71 x8 (wrap64 ((x8.length : Int) - 1))).f0.f1) ((rd_T71 x8 (wrap64 ((x8.length : Int) - 1))).f1) ((rd_T71 x8 (wrap64 ((x8.length : Int) - 1))).f2) ((rd_T71 x8 (wrap64 ((x8.length : Int) - 1))).f3)) else (none)) else (none))
def difference_CheckRefute.l1 : Nat → Int → List (S71) → Int → Int → Int → Int → Int → Int → Int → Option (Bool)
 | 0,_,_,_,_,_,_,_,_,_ => none
 | k + 1,x9,x64,x65,x66,x511000,x511001,x511002,x511003,x511004 => if x66 < x65 then (if 0 ≤ x66 then (if x66 < (x64.length : Int) then (if ((rd_T71 x64 x66).f1) = x511003 then (difference_CheckRefute.l1 k x9 x64 x65 (wrap64 (x66 + 1)) ((rd_T71 x64 x66).f0.f0) ((rd_T71 x64 x66).f0.f1) ((rd_T71 x64 x66).f1) ((rd_T71 x64 x66).f2) ((rd_T71 x64 x66).f3)) else (some false)) else (none)) else (none)) else (some (decide (x9 < 0)))
end
def difference_CheckRefute.f (k : Nat) (a0 : Int) (l1 : List (S26)) (l2 : List (S55)) : Option (Bool):=(difference_Valid.f k a0 l1).bind fun t497=>(if t497 = 0 then (if (l2.length : Int) = 0 then (difference_CheckRefute.j0 k l1 l2 true) else (difference_CheckRefute.j0 k l1 l2 (decide ((l2.length : Int) > 40)))) else (difference_CheckRefute.j0 k l1 l2 true))
theorem difference_CheckRefute.mono_l : ∀ k,(∀ y0 y1 y2,LeO (difference_CheckRefute.j0 k y0 y1 y2) (difference_CheckRefute.j0 (k + 1) y0 y1 y2)) ∧ (∀ y0 y1 y2 y3 y4 y5,LeO (difference_CheckRefute.l0 k y0 y1 y2 y3 y4 y5) (difference_CheckRefute.l0 (k + 1) y0 y1 y2 y3 y4 y5)) ∧ (∀ y0 y1 y2 y3 y4 y5 y6 y7 y8,LeO (difference_CheckRefute.l1 k y0 y1 y2 y3 y4 y5 y6 y7 y8) (difference_CheckRefute.l1 (k + 1) y0 y1 y2 y3 y4 y5 y6 y7 y8))
 | 0 => ⟨fun _ _ _ r h => by simp [difference_CheckRefute.j0] at h,fun _ _ _ _ _ _ r h => by simp [difference_CheckRefute.l0] at h,fun _ _ _ _ _ _ _ _ _ r h => by simp [difference_CheckRefute.l1] at h⟩
 | k + 1 => by
  obtain ⟨ih0,ih1,ih2⟩:=difference_CheckRefute.mono_l k
  refine ⟨?_,?_,?_⟩
  ·intro y0 y1 y2
   unfold difference_CheckRefute.j0
   repeat' first
   | (with_reducible exact ih0 _ _ _)
   | (with_reducible exact ih1 _ _ _ _ _ _)
   | (with_reducible exact ih2 _ _ _ _ _ _ _ _ _)
   | (with_reducible exact difference_Valid.mono _ _ _)
   | (with_reducible exact difference_arc_53.mono _ _ _ _)
   | (with_reducible exact difference_arcs.mono _ _)
   | (with_reducible exact LeO.refl _)
   | (with_reducible exact LeO.none _)
   | (with_reducible refine LeO.ite ?_ ?_)
   | (with_reducible refine LeO.bind ?_ (fun _ => ?_))
   | exact ih0 _ _ _
   | exact ih1 _ _ _ _ _ _
   | exact ih2 _ _ _ _ _ _ _ _ _
   | exact difference_Valid.mono _ _ _
   | exact difference_arc_53.mono _ _ _ _
   | exact difference_arcs.mono _ _
   | exact LeO.none _
   | refine LeO.ite ?_ ?_
   | refine LeO.bind ?_ (fun _ => ?_)
  ·intro y0 y1 y2 y3 y4 y5
   unfold difference_CheckRefute.l0
   repeat' first
   | (with_reducible exact ih0 _ _ _)
   | (with_reducible exact ih1 _ _ _ _ _ _)
   | (with_reducible exact ih2 _ _ _ _ _ _ _ _ _)
   | (with_reducible exact difference_Valid.mono _ _ _)
   | (with_reducible exact difference_arc_53.mono _ _ _ _)
   | (with_reducible exact difference_arcs.mono _ _)
   | (with_reducible exact LeO.refl _)
   | (with_reducible exact LeO.none _)
   | (with_reducible refine LeO.ite ?_ ?_)
   | (with_reducible refine LeO.bind ?_ (fun _ => ?_))
   | exact ih0 _ _ _
   | exact ih1 _ _ _ _ _ _
   | exact ih2 _ _ _ _ _ _ _ _ _
   | exact difference_Valid.mono _ _ _
   | exact difference_arc_53.mono _ _ _ _
   | exact difference_arcs.mono _ _
   | exact LeO.none _
   | refine LeO.ite ?_ ?_
   | refine LeO.bind ?_ (fun _ => ?_)
  ·intro y0 y1 y2 y3 y4 y5 y6 y7 y8
   unfold difference_CheckRefute.l1
   repeat' first
   | (with_reducible exact ih0 _ _ _)
   | (with_reducible exact ih1 _ _ _ _ _ _)
   | (with_reducible exact ih2 _ _ _ _ _ _ _ _ _)
   | (with_reducible exact difference_Valid.mono _ _ _)
   | (with_reducible exact difference_arc_53.mono _ _ _ _)
   | (with_reducible exact difference_arcs.mono _ _)
   | (with_reducible exact LeO.refl _)
   | (with_reducible exact LeO.none _)
   | (with_reducible refine LeO.ite ?_ ?_)
   | (with_reducible refine LeO.bind ?_ (fun _ => ?_))
   | exact ih0 _ _ _
   | exact ih1 _ _ _ _ _ _
   | exact ih2 _ _ _ _ _ _ _ _ _
   | exact difference_Valid.mono _ _ _
   | exact difference_arc_53.mono _ _ _ _
   | exact difference_arcs.mono _ _
   | exact LeO.none _
   | refine LeO.ite ?_ ?_
   | refine LeO.bind ?_ (fun _ => ?_)
theorem difference_CheckRefute.mono : ∀ a0 a1 a2 k,LeO (difference_CheckRefute.f k a0 a1 a2) (difference_CheckRefute.f (k + 1) a0 a1 a2):=by
 intro a0 a1 a2 k
 obtain ⟨ih0,ih1,ih2⟩:=difference_CheckRefute.mono_l k
 unfold difference_CheckRefute.f
 repeat' first
   | (with_reducible exact ih0 _ _ _)
   | (with_reducible exact ih1 _ _ _ _ _ _)
   | (with_reducible exact ih2 _ _ _ _ _ _ _ _ _)
   | (with_reducible exact difference_Valid.mono _ _ _)
   | (with_reducible exact difference_arc_53.mono _ _ _ _)
   | (with_reducible exact difference_arcs.mono _ _)
   | (with_reducible exact LeO.refl _)
   | (with_reducible exact LeO.none _)
   | (with_reducible refine LeO.ite ?_ ?_)
   | (with_reducible refine LeO.bind ?_ (fun _ => ?_))
   | exact ih0 _ _ _
   | exact ih1 _ _ _ _ _ _
   | exact ih2 _ _ _ _ _ _ _ _ _
   | exact difference_Valid.mono _ _ _
   | exact difference_arc_53.mono _ _ _ _
   | exact difference_arcs.mono _ _
   | exact LeO.none _
   | refine LeO.ite ?_ ?_
   | refine LeO.bind ?_ (fun _ => ?_)
set_option maxHeartbeats 8000000 in
set_option maxRecDepth 100000 in
theorem difference_CheckRefute.calls (k : Nat) (a0 : Int) (A1 : Option Addr) (c1 : Nat) (l1 : List (S26)) (A2 : Option Addr) (c2 : Nat) (l2 : List (S55)) (r : Bool) (w : World) (hr1 : Kd.C k26 w A1 l1.length l1) (hc1 : l1.length ≤ c1) (hr2 : Kd.C k55 w A2 l2.length l2) (hc2 : l2.length ≤ c2) (h : difference_CheckRefute.f k a0 l1 l2 = some r) :
  Calls Try.prog 25 #[.int .i64 a0,.slice A1 l1.length c1,.slice A2 l2.length c2] w fun e w'=>e = .returned (.bool r) ∧ Below w.heap.size w w':=by
 have hu55:=Try.underlying55
 have hu71:=Try.underlying71
 have HR1:=Aside0.mk hr1
 have HC1:=Aside0.mk hc1
 clear hr1 hc1
 have HR2:=Aside0.mk hr2
 have HC2:=Aside0.mk hc2
 clear hr2 hc2
 have HB:=Aside0.mk (Below.refl w.heap.size w)
 have H : ((difference_Valid.f k a0 l1).bind fun t497=>(if t497 = 0 then (if (l2.length : Int) = 0 then (difference_CheckRefute.j0 k l1 l2 true) else (difference_CheckRefute.j0 k l1 l2 (decide ((l2.length : Int) > 40)))) else (difference_CheckRefute.j0 k l1 l2 true))) = some r:=h
 clear h
 have HC4:=Aside0.mk H
 clear H
 have hmf : ∀ (fn : Fn) (first cap : Array Value) (w : World),(Instr.makeFunc fn first cap).run Try.prog w = .ok (.func fn first cap) w:=fun _ _ _ _=>rfl
 go_enter Try.func25,Try.ntmps25
 go_upto_region 1 with (fail)
 go_cut [29] (fun v29 wc=>∃ (kq : Nat) (x29_3 : Bool),v29 = .bool x29_3 ∧ Aside0 (difference_CheckRefute.j0 kq l1 l2 x29_3 = some r) ∧ Aside0 (kq ≤ k) ∧ Aside0 (Below w.heap.size w wc))
 case first =>
  have H:=HC4.out
  clear HC4
  replace H:=Option.bind_eq_some_iff.mp H
  obtain ⟨t497,A50,H⟩:=H
  replace H : (if t497 = 0 then (if (l2.length : Int) = 0 then (difference_CheckRefute.j0 k l1 l2 true) else (difference_CheckRefute.j0 k l1 l2 (decide ((l2.length : Int) > 40)))) else (difference_CheckRefute.j0 k l1 l2 true)) = some r:=H
  have A5:=Aside0.mk A50
  clear A50
  by_cases c6 : t497 = 0
  ·rw [if_pos c6] at H
   have c6b0 : (t497 == 0) = true:=beq_iff_eq.mpr c6
   have c6b1 : (t497 != 0) = false:=bne_eq_false_iff_eq.mpr c6
   clear c6
   (first|rw [c6b0]|(simp only [i64_w,i32_w];rw [c6b0])|skip)
   by_cases c7 : (l2.length : Int) = 0
   ·rw [if_pos c7] at H
    have c7b0 : ((l2.length : Int) == 0) = true:=beq_iff_eq.mpr c7
    have c7b1 : ((l2.length : Int) != 0) = false:=bne_eq_false_iff_eq.mpr c7
    clear c7
    have H':=Aside0.mk H
    clear H
    go_wp2_with (first|((with_reducible refine gate_callee (f:=30) rfl ?_);refine goesL_ (some 18) rfl rfl Try.func30 (by kernel_rfl) rfl #[.int .i64 a0,.slice A1 l1.length c1] rfl (by (try simp only [List.map_toArray,List.map_cons,List.map_nil]);first|done|rfl|(simp only [List.length_drop,List.length_take];rfl)) ?_;(with_reducible refine (difference_Valid.calls k a0 _ _ l1 t497 _ ?side1 ?side2 A5.out).mono ?_);(case side1=>repeat (first|exact (Kd.C_below HR1.out HB.out)|(with_reducible refine Kd.C_alloc ?_ _)|(with_reducible refine Kd.C_drewN ?_ _)|(with_reducible refine Kd.C_drew ?_)));(case side2=>exact HC1.out);rintro e w8 ⟨rfl,hb⟩;refine ⟨_,rfl,?_⟩;have n0_:=Aside0.mk (below_step (by repeat (first|(with_reducible first|exact HB.out|apply below_alloc|apply pw_below_drewN|apply below_drew1)|exact HB.out)) hb);clear HB;have HB:=n0_;clear n0_;(try clear hb);(try clear hb2);(try clear hk);(try clear hi)))
    go_meet
    case rel=>exact ⟨_,(true),(by first|rfl|(simp;done)|(simp [*];done)),H',⟨by first|omega|exact Nat.le_refl _⟩,⟨by repeat (first|(with_reducible first|exact HB.out|apply below_alloc|apply pw_below_drewN|apply below_drew1)|exact HB.out)⟩⟩
   ·rw [if_neg c7] at H
    have c7b0 : ((l2.length : Int) == 0) = false:=beq_eq_false_iff_ne.mpr c7
    have c7b1 : ((l2.length : Int) != 0) = true:=bne_iff_ne.mpr c7
    have c7b2 : ¬ (l2 = []):=fun h_=>c7 (by rw [h_];rfl)
    have H':=Aside0.mk H
    clear H
    go_wp2_with (first|((with_reducible refine gate_callee (f:=30) rfl ?_);refine goesL_ (some 18) rfl rfl Try.func30 (by kernel_rfl) rfl #[.int .i64 a0,.slice A1 l1.length c1] rfl (by (try simp only [List.map_toArray,List.map_cons,List.map_nil]);first|done|rfl|(simp only [List.length_drop,List.length_take];rfl)) ?_;(with_reducible refine (difference_Valid.calls k a0 _ _ l1 t497 _ ?side1 ?side2 A5.out).mono ?_);(case side1=>repeat (first|exact (Kd.C_below HR1.out HB.out)|(with_reducible refine Kd.C_alloc ?_ _)|(with_reducible refine Kd.C_drewN ?_ _)|(with_reducible refine Kd.C_drew ?_)));(case side2=>exact HC1.out);rintro e w9 ⟨rfl,hb⟩;refine ⟨_,rfl,?_⟩;have n0_:=Aside0.mk (below_step (by repeat (first|(with_reducible first|exact HB.out|apply below_alloc|apply pw_below_drewN|apply below_drew1)|exact HB.out)) hb);clear HB;have HB:=n0_;clear n0_;(try clear hb);(try clear hb2);(try clear hk);(try clear hi)))
    go_meet
    case rel=>exact ⟨_,(decide ((l2.length : Int) > 40)),(by first|rfl|(simp;done)|(simp [*];done)),H',⟨by first|omega|exact Nat.le_refl _⟩,⟨by repeat (first|(with_reducible first|exact HB.out|apply below_alloc|apply pw_below_drewN|apply below_drew1)|exact HB.out)⟩⟩
  ·rw [if_neg c6] at H
   have c6b0 : (t497 == 0) = false:=beq_eq_false_iff_ne.mpr c6
   have c6b1 : (t497 != 0) = true:=bne_iff_ne.mpr c6
   (first|rw [c6b0]|(simp only [i64_w,i32_w];rw [c6b0])|skip)
   have H':=Aside0.mk H
   clear H
   go_wp2_with (first|((with_reducible refine gate_callee (f:=30) rfl ?_);refine goesL_ (some 18) rfl rfl Try.func30 (by kernel_rfl) rfl #[.int .i64 a0,.slice A1 l1.length c1] rfl (by (try simp only [List.map_toArray,List.map_cons,List.map_nil]);first|done|rfl|(simp only [List.length_drop,List.length_take];rfl)) ?_;(with_reducible refine (difference_Valid.calls k a0 _ _ l1 t497 _ ?side1 ?side2 A5.out).mono ?_);(case side1=>repeat (first|exact (Kd.C_below HR1.out HB.out)|(with_reducible refine Kd.C_alloc ?_ _)|(with_reducible refine Kd.C_drewN ?_ _)|(with_reducible refine Kd.C_drew ?_)));(case side2=>exact HC1.out);rintro e w10 ⟨rfl,hb⟩;refine ⟨_,rfl,?_⟩;have n0_:=Aside0.mk (below_step (by repeat (first|(with_reducible first|exact HB.out|apply below_alloc|apply pw_below_drewN|apply below_drew1)|exact HB.out)) hb);clear HB;have HB:=n0_;clear n0_;(try clear hb);(try clear hb2);(try clear hk);(try clear hi)))
   go_meet
   case rel=>exact ⟨_,(true),(by first|rfl|(simp;done)|(simp [*];done)),H',⟨by first|omega|exact Nat.le_refl _⟩,⟨by repeat (first|(with_reducible first|exact HB.out|apply below_alloc|apply pw_below_drewN|apply below_drew1)|exact HB.out)⟩⟩
 case rest =>
  clear HC4
  try clear c1
  try clear c2
  try clear p2
  try clear c3
  try clear c6
  try clear c6b0
  try clear c6b1
  try clear c7
  try clear c7b0
  try clear c7b1
  try clear c7b2
  obtain ⟨kq,x29_3,rfl,HA,HJ3,HB⟩:=hcut
  cases kq with
  | zero => exact absurd HA.out (by simp [difference_CheckRefute.j0])
  | succ kj3 =>
   have H:=HA.out
   clear HA
   simp only [difference_CheckRefute.j0] at H
   by_cases c11 : x29_3 = true
   ·subst c11
    have H1 : (some false) = some r:=by rw [if_pos rfl] at H;exact H
    clear H
    have H:=H1
    clear H1
    obtain rfl:=Option.some.inj H
    go_wp2
    go_ret
    exact ⟨by first|rfl|(simp [errW_none,errW_some] <;> rfl)|(simp [*,errW_none,errW_some] <;> rfl),by repeat (first|(with_reducible first|exact HB.out|apply below_alloc|apply pw_below_drewN|apply below_drew1)|exact HB.out)⟩
   ·replace c11:=Bool.eq_false_iff.mpr c11
    subst c11
    have H1 : ((difference_arcs.f kj3 l1).bind fun t498=>(difference_CheckRefute.l0 kj3 t498 ([] : List (S71)) 0 l2 (l2.length : Int) 0)) = some r:=by rw [if_neg (show ¬ (false = true) by decide)] at H;exact H
    clear H
    have H:=H1
    clear H1
    replace H:=Option.bind_eq_some_iff.mp H
    obtain ⟨t498,A120,H⟩:=H
    replace H : (difference_CheckRefute.l0 kj3 t498 ([] : List (S71)) 0 l2 (l2.length : Int) 0) = some r:=H
    have A12:=Aside0.mk A120
    clear A120
    have H':=Aside0.mk H
    clear H
    go_wp2_with (first|((with_reducible refine gate_callee (f:=41) rfl ?_);refine goesL_ (some 31) rfl rfl Try.func41 (by kernel_rfl) rfl #[.slice A1 l1.length c1] rfl (by (try simp only [List.map_toArray,List.map_cons,List.map_nil]);first|done|rfl|(simp only [List.length_drop,List.length_take];rfl)) ?_;(with_reducible refine (difference_arcs.calls kj3 _ _ l1 t498 _ ?side1 ?side2 A12.out).mono ?_);(case side1=>repeat (first|exact (Kd.C_below HR1.out HB.out)|(with_reducible refine Kd.C_alloc ?_ _)|(with_reducible refine Kd.C_drewN ?_ _)|(with_reducible refine Kd.C_drew ?_)));(case side2=>exact HC1.out);rintro e w13 ⟨v499,rfl,ho0,hb⟩;refine ⟨_,rfl,?_⟩;have n0_:=Aside0.mk (Kd.R_lower ho0 (below_size (by repeat (first|(with_reducible first|exact HB.out|apply below_alloc|apply pw_below_drewN|apply below_drew1)|exact HB.out))));have n1_:=Aside0.mk (below_step (by repeat (first|(with_reducible first|exact HB.out|apply below_alloc|apply pw_below_drewN|apply below_drew1)|exact HB.out)) hb);clear HB;have HO500:=n0_;have HB:=n1_;clear n0_ n1_;(try clear hb);(try clear hb2);(try clear hk);(try clear hi);(try clear ho0)))
    go_loopg [8,9,34] kj3 (fun kq v8 v9 v34 w'=>∃ (x8_2 : List (S71)) (x9_2 : Int) (x34_2 : Int),v9 = .int .i64 x9_2 ∧ v34 = .int .i64 x34_2 ∧ Aside0 (difference_CheckRefute.l0 kq t498 x8_2 x9_2 l2 (l2.length : Int) x34_2 = some r) ∧ Aside0 (kq ≤ kj3) ∧ Aside0 (Kd.R k71 71 w' w.heap.size (fun k_=>some k_ ≠ (v8 : Value).ownBlock) v499 t498) ∧ Aside0 (Kd.R k71 71 w' w.heap.size (fun k_=>some k_ ≠ (v499 : Value).ownBlock) v8 x8_2) ∧ Aside0 (Below w.heap.size w w'))
    case atStart=>exact ⟨(([] : List (S71))),(0),(0),(by first|rfl|(simp;done)|(simp [*];done)),(by first|rfl|(simp;done)|(simp [*];done)),H',⟨Nat.le_refl _⟩,⟨by (with_reducible repeat (first|apply Kd.R_alloc|apply Kd.R_drewN|apply Kd.R_drew));exact Kd.R_mono HO500.out (fun _ hk=>(by simp [Value.ownBlock]))⟩,⟨by first|exact Kd.R_nil _ _ _ _ _|exact Kd.N_nil _ _ _ _ _|exact Kd.V_nil _ _ _ _ _|exact Kd.Q_nil _ _ _ _ _|exact Kd.S_nil _ _ _ _ _⟩,⟨by repeat (first|(with_reducible first|exact HB.out|apply below_alloc|apply pw_below_drewN|apply below_drew1)|exact HB.out)⟩⟩
    case round =>
     clear H'
     try clear c1
     try clear c2
     try clear p2
     try clear c3
     try clear c4
     try clear c6
     try clear c6b0
     try clear c6b1
     try clear c7
     try clear c7b0
     try clear c7b1
     try clear c7b2
     try clear c11
     try clear p2
     obtain ⟨x8_2,x9_2,x34_2,rfl,rfl,HA,HK2,HO_7,HO_8,HB⟩:=hrel
     cases gk with
     | zero => exact absurd HA.out (by simp [difference_CheckRefute.l0])
     | succ k2 =>
      have H:=HA.out
      clear HA
      simp only [difference_CheckRefute.l0] at H
      by_cases c14 : x34_2 < (l2.length : Int)
      ·rw [if_pos c14] at H
       have c14b0 : decide (x34_2 < (l2.length : Int)) = true:=decide_eq_true c14
       clear c14
       by_cases c15 : 0 ≤ x34_2
       ·rw [if_pos c15] at H
        have c15b0 : decide (0 ≤ x34_2) = true:=decide_eq_true c15
        clear c15
        by_cases c16 : x34_2 < (l2.length : Int)
        ·rw [if_pos c16] at H
         have c16b0 : decide (x34_2 < (l2.length : Int)) = true:=decide_eq_true c16
         clear c16
         replace H:=Option.bind_eq_some_iff.mp H
         obtain ⟨t503,A170,H⟩:=H
         replace H : (if t503 < 0 then (some false) else (if 0 ≤ t503 then (if t503 < (t498.length : Int) then (if x8_2.length < 3518437208883 then (difference_CheckRefute.l0 k2 t498 (x8_2 ++ [(⟨(⟨(rd_T71 t498 t503).f0.f0,(rd_T71 t498 t503).f0.f1⟩ : S55),(rd_T71 t498 t503).f1,(rd_T71 t498 t503).f2,(rd_T71 t498 t503).f3⟩ : S71)]) (wrap64 (x9_2 + ((rd_T71 t498 t503).f3))) l2 (l2.length : Int) (wrap64 (x34_2 + 1))) else (none)) else (none)) else (none))) = some r:=H
         have A17:=Aside0.mk A170
         clear A170
         by_cases c18 : t503 < 0
         ·rw [if_pos c18] at H
          have c18b0 : decide (t503 < 0) = true:=decide_eq_true c18
          clear c18
          obtain rfl:=Option.some.inj H
          have p501 : 0 ≤ (x34_2 : Int):=of_decide_eq_true (by first|(with_reducible assumption)|assumption)
          have q501 : x34_2 < (l2.length : Int):=of_decide_eq_true (by first|(with_reducible assumption)|assumption)
          obtain ⟨ad501,e501,hx501_0,hx501_1⟩:=at_T55 HR2.out x34_2 p501 q501
          cases e501
          replace hx501_0:=(HB.out.cell (World.block_lt_of_cell? w _ hx501_0)).trans hx501_0
          replace hx501_1:=(HB.out.cell (World.block_lt_of_cell? w _ hx501_1)).trans hx501_1
          replace p501:=eq_true p501
          replace q501:=eq_true q501
          go_wp2_with (first|((with_reducible refine gate_dst (N:=11) rfl ?_);(try (refine gate_guard (by rfl) ?_;dsimp only));refine box_event ?hg (N:=11) ?hd (cs:=#[.int .i64 0,.int .i64 0]) (t:=55) ?hr ?_;(case hd=>rfl);(case hg=>rfl);(case hr=>first|(go_simp;done)|(go_simp;rfl));intro gb502 hg w19 hbox hb;have n0_:=Aside0.mk (Kd.R_below (by (with_reducible repeat (first|apply Kd.R_alloc|apply Kd.R_drewN|apply Kd.R_drew));exact HO_7.out) hb);have n1_:=Aside0.mk (Kd.R_below (by (with_reducible repeat (first|apply Kd.R_alloc|apply Kd.R_drewN|apply Kd.R_drew));exact HO_8.out) hb);have n2_:=Aside0.mk (below_step (by repeat (first|(with_reducible first|exact HB.out|apply below_alloc|apply pw_below_drewN|apply below_drew1)|exact HB.out)) hb);have n3_:=Aside0.mk (hbox);have n4_:=Aside0.mk ((by rw [hg];exact (below_size (by repeat (first|(with_reducible first|exact HB.out|apply below_alloc|apply pw_below_drewN|apply below_drew1)|exact HB.out))) : w.heap.size ≤ gb502));have n5_:=Aside0.mk ((by rw [hg];exact (below_size (by repeat (first|(with_reducible first|exact HB.out|apply below_alloc|apply pw_below_drewN|apply below_drew1)|exact HB.out))) : w.heap.size ≤ gb502));clear HO_7;clear HO_8;clear HB;have HO_7:=n0_;have HO_8:=n1_;have HB:=n2_;have BK502:=n3_;have GW502:=n4_;have GE502:=n5_;clear n0_ n1_ n2_ n3_ n4_ n5_;clear hb hbox hg;have hcz20_0 : w19.cell? ⟨gb502,0,none⟩ = some (.int .i64 0):=(blk_cell BK502.out 0).trans rfl;have hcz20_1 : w19.cell? ⟨gb502,1,none⟩ = some (.int .i64 0):=(blk_cell BK502.out 1).trans rfl;have hfz20_0:=blk_frozen BK502.out 0;have hfz20_1:=blk_frozen BK502.out 1;obtain ⟨Ao21,co21,eo21⟩:=Kd.R_slice HO_7.out;subst eo21)|((with_reducible refine gate_callee (f:=53) rfl ?_);refine goesL_ (some 40) rfl rfl Try.func53 (by kernel_rfl) rfl #[.slice Ao21 t498.length co21,.func (.func 54) #[] #[.pointer (some ⟨gb502,0,none⟩)]] rfl (by (try simp only [List.map_toArray,List.map_cons,List.map_nil]);first|done|rfl|(simp only [List.length_drop,List.length_take];rfl)) ?_;(with_reducible refine (difference_arc_53.calls k2 _ _ t498 ((rd_T55 l2 x34_2).f0) ((rd_T55 l2 x34_2).f1) t503 _ ?side1 ?side2 A17.out ?sg0 ?sg1).mono ?_);(case side1=>refine (Kd.R_reads' (e:=71) (base:=w.heap.size) (ok:=fun k_=>some k_ ≠ (u8 : Value).ownBlock) (n:=t498.length) (c:=co21) ?_).2.2;exact (by (with_reducible repeat (first|apply Kd.R_alloc|apply Kd.R_drewN|apply Kd.R_drew));exact (Kd.R_mono (Kd.R_far (p:=⟨gb502,1,none⟩) (Kd.R_far (p:=⟨gb502,0,none⟩) (Kd.R_types HO_7.out BK502.out (by decide)) (fun _ hk=>hk.2) (.int .i64 ((rd_T55 l2 x34_2).f0))) (fun _ hk=>hk.2) (.int .i64 ((rd_T55 l2 x34_2).f1))) (fun _ h_=>h_.1))));(case sg0=>exact (blk_cell (t:=55) (cs:=#[.int .i64 ((rd_T55 l2 x34_2).f0),.int .i64 ((rd_T55 l2 x34_2).f1)]) (by (with_reducible repeat (first|refine blk_drewN ?_ _|refine blk_drew ?_|refine blk_alloc ?_ _));refine blk_put (cs:=#[.int .i64 ((rd_T55 l2 x34_2).f0),.int .i64 0]) ?_ 1 _ rfl;refine blk_put (cs:=#[.int .i64 0,.int .i64 0]) ?_ 0 _ rfl;exact BK502.out) 0).trans rfl);(case sg1=>exact (blk_cell (t:=55) (cs:=#[.int .i64 ((rd_T55 l2 x34_2).f0),.int .i64 ((rd_T55 l2 x34_2).f1)]) (by (with_reducible repeat (first|refine blk_drewN ?_ _|refine blk_drew ?_|refine blk_alloc ?_ _));refine blk_put (cs:=#[.int .i64 ((rd_T55 l2 x34_2).f0),.int .i64 0]) ?_ 1 _ rfl;refine blk_put (cs:=#[.int .i64 0,.int .i64 0]) ?_ 0 _ rfl;exact BK502.out) 1).trans rfl);(case side2=>exact (Kd.R_reads' HO_7.out).2.1);rintro e w22 ⟨rfl,hb⟩;refine ⟨_,rfl,?_⟩;have n0_:=Aside0.mk (Kd.R_below (by (with_reducible repeat (first|apply Kd.R_alloc|apply Kd.R_drewN|apply Kd.R_drew));exact (Kd.R_mono (Kd.R_far (p:=⟨gb502,1,none⟩) (Kd.R_far (p:=⟨gb502,0,none⟩) (Kd.R_types HO_7.out BK502.out (by decide)) (fun _ hk=>hk.2) (.int .i64 ((rd_T55 l2 x34_2).f0))) (fun _ hk=>hk.2) (.int .i64 ((rd_T55 l2 x34_2).f1))) (fun _ h_=>h_.1))) hb);have n1_:=Aside0.mk (Kd.R_below (by (with_reducible repeat (first|apply Kd.R_alloc|apply Kd.R_drewN|apply Kd.R_drew));exact (Kd.R_mono (Kd.R_far (p:=⟨gb502,1,none⟩) (Kd.R_far (p:=⟨gb502,0,none⟩) (Kd.R_types HO_8.out BK502.out (by decide)) (fun _ hk=>hk.2) (.int .i64 ((rd_T55 l2 x34_2).f0))) (fun _ hk=>hk.2) (.int .i64 ((rd_T55 l2 x34_2).f1))) (fun _ h_=>h_.1))) hb);have n2_:=Aside0.mk (blk_below (g:=gb502) (o:=.cells #[.int .i64 ((rd_T55 l2 x34_2).f0),.int .i64 ((rd_T55 l2 x34_2).f1)] 55 (0,0)) (by (with_reducible repeat (first|refine blk_drewN ?_ _|refine blk_drew ?_|refine blk_alloc ?_ _));refine blk_put (cs:=#[.int .i64 ((rd_T55 l2 x34_2).f0),.int .i64 0]) ?_ 1 _ rfl;(with_reducible repeat (first|refine blk_drewN ?_ _|refine blk_drew ?_|refine blk_alloc ?_ _));refine blk_put (cs:=#[.int .i64 0,.int .i64 0]) ?_ 0 _ rfl;(with_reducible repeat (first|refine blk_drewN ?_ _|refine blk_drew ?_|refine blk_alloc ?_ _));exact BK502.out) hb);have n3_:=Aside0.mk (below_step (by repeat (first|(with_reducible first|exact HB.out|apply below_alloc|apply pw_below_drewN|apply below_drew1|refine below_set ?_ GE502.out)|exact HB.out)) hb);clear HO_7;clear HO_8;clear BK502;clear HB;have HO_7:=n0_;have HO_8:=n1_;have BK502:=n2_;have HB:=n3_;clear n0_ n1_ n2_ n3_;(try clear hb);(try clear hb2);(try clear hk);(try clear hi)))
          go_ret
          exact ⟨by first|rfl|(simp [errW_none,errW_some] <;> rfl)|(simp [*,errW_none,errW_some] <;> rfl),by repeat (first|(with_reducible first|exact HB.out|apply below_alloc|apply pw_below_drewN|apply below_drew1|refine below_set ?_ GE502.out)|exact HB.out)⟩
         ·rw [if_neg c18] at H
          have c18b0 : decide (t503 < 0) = false:=decide_eq_false c18
          clear c18
          by_cases c23 : 0 ≤ t503
          ·rw [if_pos c23] at H
           have c23b0 : decide (0 ≤ t503) = true:=decide_eq_true c23
           clear c23
           by_cases c24 : t503 < (t498.length : Int)
           ·rw [if_pos c24] at H
            have c24b0 : decide (t503 < (t498.length : Int)) = true:=decide_eq_true c24
            clear c24
            by_cases c25 : x8_2.length < 3518437208883
            ·rw [if_pos c25] at H
             have LMc25:=Aside0.mk c25
             clear c25
             obtain ⟨y505,hy505⟩ : ∃ y_ : List (S71),y_ = (x8_2 ++ [(⟨(⟨(rd_T71 t498 t503).f0.f0,(rd_T71 t498 t503).f0.f1⟩ : S55),(rd_T71 t498 t503).f1,(rd_T71 t498 t503).f2,(rd_T71 t498 t503).f3⟩ : S71)]):=⟨_,rfl⟩
             replace H : (difference_CheckRefute.l0 k2 t498 y505 (wrap64 (x9_2 + ((rd_T71 t498 t503).f3))) l2 (l2.length : Int) (wrap64 (x34_2 + 1))) = some r:=by first|(rw [hy505];with_reducible exact H)|(have H2_:=(Option.bind_some _ _).symm.trans H;rw [hy505];with_reducible exact H2_)|(have H2_:=(Option.bind_some _ _).symm.trans H;with_reducible exact H2_)|with_reducible exact H|(rw [hy505];exact H)|exact H
             have Ny505:=Aside0.mk hy505
             clear hy505
             have H':=Aside0.mk H
             clear H
             have p501 : 0 ≤ (x34_2 : Int):=of_decide_eq_true (by first|(with_reducible assumption)|assumption)
             have q501 : x34_2 < (l2.length : Int):=of_decide_eq_true (by first|(with_reducible assumption)|assumption)
             obtain ⟨ad501,e501,hx501_0,hx501_1⟩:=at_T55 HR2.out x34_2 p501 q501
             cases e501
             replace hx501_0:=(HB.out.cell (World.block_lt_of_cell? w _ hx501_0)).trans hx501_0
             replace hx501_1:=(HB.out.cell (World.block_lt_of_cell? w _ hx501_1)).trans hx501_1
             replace p501:=eq_true p501
             replace q501:=eq_true q501
             go_wp2_with (first|((with_reducible refine gate_dst (N:=11) rfl ?_);(try (refine gate_guard (by rfl) ?_;dsimp only));refine box_event ?hg (N:=11) ?hd (cs:=#[.int .i64 0,.int .i64 0]) (t:=55) ?hr ?_;(case hd=>rfl);(case hg=>rfl);(case hr=>first|(go_simp;done)|(go_simp;rfl));intro gb502 hg w26 hbox hb;have n0_:=Aside0.mk (Kd.R_below (by (with_reducible repeat (first|apply Kd.R_alloc|apply Kd.R_drewN|apply Kd.R_drew));exact HO_7.out) hb);have n1_:=Aside0.mk (Kd.R_below (by (with_reducible repeat (first|apply Kd.R_alloc|apply Kd.R_drewN|apply Kd.R_drew));exact HO_8.out) hb);have n2_:=Aside0.mk (below_step (by repeat (first|(with_reducible first|exact HB.out|apply below_alloc|apply pw_below_drewN|apply below_drew1)|exact HB.out)) hb);have n3_:=Aside0.mk (hbox);have n4_:=Aside0.mk ((by rw [hg];exact (below_size (by repeat (first|(with_reducible first|exact HB.out|apply below_alloc|apply pw_below_drewN|apply below_drew1)|exact HB.out))) : w.heap.size ≤ gb502));have n5_:=Aside0.mk ((by rw [hg];exact (below_size (by repeat (first|(with_reducible first|exact HB.out|apply below_alloc|apply pw_below_drewN|apply below_drew1)|exact HB.out))) : w.heap.size ≤ gb502));clear HO_7;clear HO_8;clear HB;have HO_7:=n0_;have HO_8:=n1_;have HB:=n2_;have BK502:=n3_;have GW502:=n4_;have GE502:=n5_;clear n0_ n1_ n2_ n3_ n4_ n5_;clear hb hbox hg;have hcz27_0 : w26.cell? ⟨gb502,0,none⟩ = some (.int .i64 0):=(blk_cell BK502.out 0).trans rfl;have hcz27_1 : w26.cell? ⟨gb502,1,none⟩ = some (.int .i64 0):=(blk_cell BK502.out 1).trans rfl;have hfz27_0:=blk_frozen BK502.out 0;have hfz27_1:=blk_frozen BK502.out 1;obtain ⟨Ao28,co28,eo28⟩:=Kd.R_slice HO_7.out;subst eo28)|((with_reducible refine gate_callee (f:=53) rfl ?_);refine goesL_ (some 40) rfl rfl Try.func53 (by kernel_rfl) rfl #[.slice Ao28 t498.length co28,.func (.func 54) #[] #[.pointer (some ⟨gb502,0,none⟩)]] rfl (by (try simp only [List.map_toArray,List.map_cons,List.map_nil]);first|done|rfl|(simp only [List.length_drop,List.length_take];rfl)) ?_;(with_reducible refine (difference_arc_53.calls k2 _ _ t498 ((rd_T55 l2 x34_2).f0) ((rd_T55 l2 x34_2).f1) t503 _ ?side1 ?side2 A17.out ?sg0 ?sg1).mono ?_);(case side1=>refine (Kd.R_reads' (e:=71) (base:=w.heap.size) (ok:=fun k_=>some k_ ≠ (u8 : Value).ownBlock) (n:=t498.length) (c:=co28) ?_).2.2;exact (by (with_reducible repeat (first|apply Kd.R_alloc|apply Kd.R_drewN|apply Kd.R_drew));exact (Kd.R_mono (Kd.R_far (p:=⟨gb502,1,none⟩) (Kd.R_far (p:=⟨gb502,0,none⟩) (Kd.R_types HO_7.out BK502.out (by decide)) (fun _ hk=>hk.2) (.int .i64 ((rd_T55 l2 x34_2).f0))) (fun _ hk=>hk.2) (.int .i64 ((rd_T55 l2 x34_2).f1))) (fun _ h_=>h_.1))));(case sg0=>exact (blk_cell (t:=55) (cs:=#[.int .i64 ((rd_T55 l2 x34_2).f0),.int .i64 ((rd_T55 l2 x34_2).f1)]) (by (with_reducible repeat (first|refine blk_drewN ?_ _|refine blk_drew ?_|refine blk_alloc ?_ _));refine blk_put (cs:=#[.int .i64 ((rd_T55 l2 x34_2).f0),.int .i64 0]) ?_ 1 _ rfl;refine blk_put (cs:=#[.int .i64 0,.int .i64 0]) ?_ 0 _ rfl;exact BK502.out) 0).trans rfl);(case sg1=>exact (blk_cell (t:=55) (cs:=#[.int .i64 ((rd_T55 l2 x34_2).f0),.int .i64 ((rd_T55 l2 x34_2).f1)]) (by (with_reducible repeat (first|refine blk_drewN ?_ _|refine blk_drew ?_|refine blk_alloc ?_ _));refine blk_put (cs:=#[.int .i64 ((rd_T55 l2 x34_2).f0),.int .i64 0]) ?_ 1 _ rfl;refine blk_put (cs:=#[.int .i64 0,.int .i64 0]) ?_ 0 _ rfl;exact BK502.out) 1).trans rfl);(case side2=>exact (Kd.R_reads' HO_7.out).2.1);rintro e w29 ⟨rfl,hb⟩;refine ⟨_,rfl,?_⟩;have n0_:=Aside0.mk (Kd.R_below (by (with_reducible repeat (first|apply Kd.R_alloc|apply Kd.R_drewN|apply Kd.R_drew));exact (Kd.R_mono (Kd.R_far (p:=⟨gb502,1,none⟩) (Kd.R_far (p:=⟨gb502,0,none⟩) (Kd.R_types HO_7.out BK502.out (by decide)) (fun _ hk=>hk.2) (.int .i64 ((rd_T55 l2 x34_2).f0))) (fun _ hk=>hk.2) (.int .i64 ((rd_T55 l2 x34_2).f1))) (fun _ h_=>h_.1))) hb);have n1_:=Aside0.mk (Kd.R_below (by (with_reducible repeat (first|apply Kd.R_alloc|apply Kd.R_drewN|apply Kd.R_drew));exact (Kd.R_mono (Kd.R_far (p:=⟨gb502,1,none⟩) (Kd.R_far (p:=⟨gb502,0,none⟩) (Kd.R_types HO_8.out BK502.out (by decide)) (fun _ hk=>hk.2) (.int .i64 ((rd_T55 l2 x34_2).f0))) (fun _ hk=>hk.2) (.int .i64 ((rd_T55 l2 x34_2).f1))) (fun _ h_=>h_.1))) hb);have n2_:=Aside0.mk (blk_below (g:=gb502) (o:=.cells #[.int .i64 ((rd_T55 l2 x34_2).f0),.int .i64 ((rd_T55 l2 x34_2).f1)] 55 (0,0)) (by (with_reducible repeat (first|refine blk_drewN ?_ _|refine blk_drew ?_|refine blk_alloc ?_ _));refine blk_put (cs:=#[.int .i64 ((rd_T55 l2 x34_2).f0),.int .i64 0]) ?_ 1 _ rfl;(with_reducible repeat (first|refine blk_drewN ?_ _|refine blk_drew ?_|refine blk_alloc ?_ _));refine blk_put (cs:=#[.int .i64 0,.int .i64 0]) ?_ 0 _ rfl;(with_reducible repeat (first|refine blk_drewN ?_ _|refine blk_drew ?_|refine blk_alloc ?_ _));exact BK502.out) hb);have n3_:=Aside0.mk (below_step (by repeat (first|(with_reducible first|exact HB.out|apply below_alloc|apply pw_below_drewN|apply below_drew1|refine below_set ?_ GE502.out)|exact HB.out)) hb);clear HO_7;clear HO_8;clear BK502;clear HB;have HO_7:=n0_;have HO_8:=n1_;have BK502:=n2_;have HB:=n3_;clear n0_ n1_ n2_ n3_;(try clear hb);(try clear hb2);(try clear hk);(try clear hi);have p504 : 0 ≤ (t503 : Int):=of_decide_eq_true (by first|(with_reducible assumption)|assumption);have q504 : t503 < (t498.length : Int):=of_decide_eq_true (by first|(with_reducible assumption)|assumption);obtain ⟨ad504,e504,hx504_0,hx504_1,hx504_2,hx504_3,hx504_4⟩:=at_T71 (Kd.R_reads' HO_7.out).2.2 t503 p504 q504;cases e504;replace p504:=eq_true p504;replace q504:=eq_true q504)|((with_reducible refine gate_builtin (b:=.append) (xs:=#[.tmp 43,.tmp 48]) rfl ?_);(try (refine gate_guard (by rfl) ?_;dsimp only));at_builtin;refine Kd.R_append k71 (w0:=w) w.heap.size rfl (.tmp 43) (.tmp 48) 68 71 (.agg #[(.int .i64 0),(.int .i64 0),(.int .i64 0),(.int .i64 0),(.int .i64 0)]) 40 rfl Try.underlying68 info71 rfl (by decide) (by omega) u8 x8_2 (⟨(⟨(rd_T71 t498 t503).f0.f0,(rd_T71 t498 t503).f0.f1⟩ : S55),(rd_T71 t498 t503).f1,(rd_T71 t498 t503).f2,(rd_T71 t498 t503).f3⟩ : S71) [.int .i64 ((rd_T71 t498 t503).f0.f0),.int .i64 ((rd_T71 t498 t503).f0.f1),.int .i64 ((rd_T71 t498 t503).f1),.int .i64 ((rd_T71 t498 t503).f2),.int .i64 ((rd_T71 t498 t503).f3)] (fun k_=>some k_ ≠ (.slice (some ad504) t498.length co28 : Value).ownBlock) (fun _=>False) rfl rfl ?aP (fun _ hk=>hk.elim) ?aF ?aO ?aB ?aS ?aL ?_;(case aP=>exact k71_mkM _ _ _ (⟨(⟨(rd_T71 t498 t503).f0.f0,(rd_T71 t498 t503).f0.f1⟩ : S55),(rd_T71 t498 t503).f1,(rd_T71 t498 t503).f2,(rd_T71 t498 t503).f3⟩ : S71));(case aB=>exact (by repeat (first|(with_reducible first|exact HB.out|apply below_alloc|apply pw_below_drewN|apply below_drew1|refine below_set ?_ GE502.out)|exact HB.out)));(case aF=>exact (fun k_ hk=>Kd.fresh' (Kd.R_lt (by (with_reducible repeat (first|apply Kd.R_alloc|apply Kd.R_drewN|apply Kd.R_drew));exact HO_7.out)) k_ hk));(case aO=>exact (by (with_reducible repeat (first|apply Kd.R_alloc|apply Kd.R_drewN|apply Kd.R_drew));exact HO_8.out));(case aS=>exact (below_size (by repeat (first|(with_reducible first|exact HB.out|apply below_alloc|apply pw_below_drewN|apply below_drew1|refine below_set ?_ GE502.out)|exact HB.out))));(case aL=>have:=LMc25.out;omega);intro v506 w30 ho hb hg hat;rw [← Ny505.out] at ho;have n0_:=Aside0.mk (Kd.R_after (ok:=(fun _=>True)) (by (with_reducible repeat (first|apply Kd.R_alloc|apply Kd.R_drewN|apply Kd.R_drew));exact Kd.R_mono HO_7.out (fun _ hk=>⟨trivial,hk⟩)) hg hat);have n1_:=Aside0.mk (blk_grown (g:=gb502) (o:=.cells #[.int .i64 ((rd_T55 l2 x34_2).f0),.int .i64 ((rd_T55 l2 x34_2).f1)] 55 (0,0)) (by (with_reducible repeat (first|refine blk_drewN ?_ _|refine blk_drew ?_|refine blk_alloc ?_ _));exact BK502.out) hg (Kd.R_ne HO_8.out BK502.out (by decide)));have n2_:=Aside0.mk (hb);have n3_:=Aside0.mk (ho);clear HO_7;clear BK502;clear HB;clear HO_8;have HO_7:=n0_;have BK502:=n1_;have HB:=n2_;have HO507:=n3_;clear n0_ n1_ n2_ n3_;clear ho hb hg hat;have p508 : 0 ≤ (t503 : Int):=of_decide_eq_true (by first|(with_reducible assumption)|assumption);have q508 : t503 < (t498.length : Int):=of_decide_eq_true (by first|(with_reducible assumption)|assumption);obtain ⟨ad508,e508,hx508_0,hx508_1,hx508_2,hx508_3,hx508_4⟩:=at_T71 (Kd.R_reads' HO_7.out).2.2 t503 p508 q508;obtain rfl : ad504 = ad508:=(by injection e508);replace p508:=eq_true p508;replace q508:=eq_true q508))
             go_roundg k2
             case measure=>have:=HJ3.out;have:=HK2.out;omega
             case rel=>exact ⟨(y505),(wrap64 (x9_2 + ((rd_T71 t498 t503).f3))),(wrap64 (x34_2 + 1)),(by first|rfl|(simp;done)|(simp [*];done)),(by first|rfl|(simp;done)|(simp [*];done)),H',⟨by have:=HJ3.out;have:=HK2.out;omega⟩,⟨by (with_reducible repeat (first|apply Kd.R_alloc|apply Kd.R_drewN|apply Kd.R_drew));exact Kd.R_mono HO_7.out (fun _ hk=>hk.2)⟩,⟨by (with_reducible repeat (first|apply Kd.R_alloc|apply Kd.R_drewN|apply Kd.R_drew));exact HO507.out⟩,⟨by repeat (first|(with_reducible first|exact HB.out|apply below_alloc|apply pw_below_drewN|apply below_drew1|refine below_set ?_ GE502.out)|exact HB.out)⟩⟩
            ·rw [if_neg c25] at H
             exact absurd H (by simp)
           ·rw [if_neg c24] at H
            exact absurd H (by simp)
          ·rw [if_neg c23] at H
           exact absurd H (by simp)
        ·rw [if_neg c16] at H
         exact absurd H (by simp)
       ·rw [if_neg c15] at H
        exact absurd H (by simp)
      ·rw [if_neg c14] at H
       have c14b0 : decide (x34_2 < (l2.length : Int)) = false:=decide_eq_false c14
       clear c14
       obtain ⟨ji31,hji31⟩ : ∃ j_ : Int,(wrap64 ((x8_2.length : Int) - 1)) = j_:=⟨_,rfl⟩
       replace H : (if 0 ≤ (ji31) then (if (ji31) < (x8_2.length : Int) then (difference_CheckRefute.l1 k2 x9_2 x8_2 (x8_2.length : Int) 0 ((rd_T71 x8_2 (ji31)).f0.f0) ((rd_T71 x8_2 (ji31)).f0.f1) ((rd_T71 x8_2 (ji31)).f1) ((rd_T71 x8_2 (ji31)).f2) ((rd_T71 x8_2 (ji31)).f3)) else (none)) else (none)) = some r:=by first|(rw [hji31] at H;exact H)|(simp only [hji31] at H ⊢;exact H)
       have hji31w : (IntKind.i64.wrap ((x8_2.length : Int) - 1)) = ji31:=(i64_w _).trans hji31
       by_cases c32 : 0 ≤ (ji31)
       ·rw [if_pos c32] at H
        have c32b0 : decide (0 ≤ (ji31)) = true:=decide_eq_true c32
        clear c32
        by_cases c33 : (ji31) < (x8_2.length : Int)
        ·rw [if_pos c33] at H
         have c33b0 : decide ((ji31) < (x8_2.length : Int)) = true:=decide_eq_true c33
         clear c33
         have H':=Aside0.mk H
         clear H
         obtain ⟨Ao34,co34,eo34⟩:=Kd.R_slice HO_8.out
         subst eo34
         have p509 : 0 ≤ ((ji31) : Int):=of_decide_eq_true (by first|(with_reducible assumption)|assumption)
         have q509 : (ji31) < (x8_2.length : Int):=of_decide_eq_true (by first|(with_reducible assumption)|assumption)
         obtain ⟨ad509,e509,hx509_0,hx509_1,hx509_2,hx509_3,hx509_4⟩:=at_T71 (Kd.R_reads' HO_8.out).2.2 (ji31) p509 q509
         cases e509
         replace p509:=eq_true p509
         replace q509:=eq_true q509
         go_wp2_with (first|((with_reducible refine gate_dst (N:=13) rfl ?_);(try (refine gate_guard (by rfl) ?_;dsimp only));refine box_event ?hg (N:=13) ?hd (cs:=#[.int .i64 0,.int .i64 0,.int .i64 0,.int .i64 0,.int .i64 0]) (t:=71) ?hr ?_;(case hd=>rfl);(case hg=>rfl);(case hr=>first|(go_simp;done)|(go_simp;rfl));intro gb510 hg w35 hbox hb;have n0_:=Aside0.mk (Kd.R_below (Kd.R_elderB (by (with_reducible repeat (first|apply Kd.R_alloc|apply Kd.R_drewN|apply Kd.R_drew));exact HO_7.out) gb510 (Nat.le_of_eq hg.symm)) hb);have n1_:=Aside0.mk (Kd.R_below (Kd.R_elderB (by (with_reducible repeat (first|apply Kd.R_alloc|apply Kd.R_drewN|apply Kd.R_drew));exact HO_8.out) gb510 (Nat.le_of_eq hg.symm)) hb);have n2_:=Aside0.mk (below_step (by repeat (first|(with_reducible first|exact HB.out|apply below_alloc|apply pw_below_drewN|apply below_drew1)|exact HB.out)) hb);have n3_:=Aside0.mk (hbox);have n4_:=Aside0.mk ((by rw [hg];exact (below_size (by repeat (first|(with_reducible first|exact HB.out|apply below_alloc|apply pw_below_drewN|apply below_drew1)|exact HB.out))) : w.heap.size ≤ gb510));have n5_:=Aside0.mk ((by rw [hg];exact (below_size (by repeat (first|(with_reducible first|exact HB.out|apply below_alloc|apply pw_below_drewN|apply below_drew1)|exact HB.out))) : w.heap.size ≤ gb510));clear HO_7;clear HO_8;clear HB;have HO_7:=n0_;have HO_8:=n1_;have HB:=n2_;have BK510:=n3_;have GW510:=n4_;have GE510:=n5_;clear n0_ n1_ n2_ n3_ n4_ n5_;clear hb hbox hg;have hcz36_0 : w35.cell? ⟨gb510,0,none⟩ = some (.int .i64 0):=(blk_cell BK510.out 0).trans rfl;have hcz36_1 : w35.cell? ⟨gb510,1,none⟩ = some (.int .i64 0):=(blk_cell BK510.out 1).trans rfl;have hcz36_2 : w35.cell? ⟨gb510,2,none⟩ = some (.int .i64 0):=(blk_cell BK510.out 2).trans rfl;have hcz36_3 : w35.cell? ⟨gb510,3,none⟩ = some (.int .i64 0):=(blk_cell BK510.out 3).trans rfl;have hcz36_4 : w35.cell? ⟨gb510,4,none⟩ = some (.int .i64 0):=(blk_cell BK510.out 4).trans rfl;have hfz36_0:=blk_frozen BK510.out 0;have hfz36_1:=blk_frozen BK510.out 1;have hfz36_2:=blk_frozen BK510.out 2;have hfz36_3:=blk_frozen BK510.out 3;have hfz36_4:=blk_frozen BK510.out 4))
         go_loopg [66] k2 (fun kq v66 w'=>∃ (x66_3 : Int) (x511000_3 : Int) (x511001_3 : Int) (x511002_3 : Int) (x511003_3 : Int) (x511004_3 : Int),v66 = .int .i64 x66_3 ∧ Aside0 (difference_CheckRefute.l1 kq x9_2 x8_2 (x8_2.length : Int) x66_3 x511000_3 x511001_3 x511002_3 x511003_3 x511004_3 = some r) ∧ Aside0 (kq ≤ k2) ∧ Aside0 (Kd.R k71 71 w' w.heap.size (fun k_=>k_ ≠ gb510) (.slice (some ad509) x8_2.length co34) x8_2) ∧ Aside0 (w'.heap[gb510]? = some (.cells #[.int .i64 x511000_3,.int .i64 x511001_3,.int .i64 x511002_3,.int .i64 x511003_3,.int .i64 x511004_3] 71 (0,0))) ∧ Aside0 (Below w.heap.size w w'))
         case atStart=>exact ⟨(0),((rd_T71 x8_2 (ji31)).f0.f0),((rd_T71 x8_2 (ji31)).f0.f1),((rd_T71 x8_2 (ji31)).f1),((rd_T71 x8_2 (ji31)).f2),((rd_T71 x8_2 (ji31)).f3),(by first|rfl|(simp;done)|(simp [*];done)),H',⟨Nat.le_refl _⟩,⟨by (with_reducible repeat (first|apply Kd.R_alloc|apply Kd.R_drewN|apply Kd.R_drew));exact Kd.R_mono (Kd.R_far (p:=⟨gb510,4,none⟩) (Kd.R_far (p:=⟨gb510,3,none⟩) (Kd.R_far (p:=⟨gb510,2,none⟩) (Kd.R_far (p:=⟨gb510,1,none⟩) (Kd.R_far (p:=⟨gb510,0,none⟩) (Kd.R_mono HO_8.out (fun k_ hk=>(⟨hk,hk.2⟩ : _ ∧ k_ ≠ gb510))) (fun _ hk=>hk.2) (.int .i64 ((rd_T71 x8_2 (ji31)).f0.f0))) (fun _ hk=>hk.2) (.int .i64 ((rd_T71 x8_2 (ji31)).f0.f1))) (fun _ hk=>hk.2) (.int .i64 ((rd_T71 x8_2 (ji31)).f1))) (fun _ hk=>hk.2) (.int .i64 ((rd_T71 x8_2 (ji31)).f2))) (fun _ hk=>hk.2) (.int .i64 ((rd_T71 x8_2 (ji31)).f3))) (fun _ hk=>hk.1.2)⟩,⟨by (with_reducible repeat (first|refine blk_drewN ?_ _|refine blk_drew ?_|refine blk_alloc ?_ _));refine blk_put (cs:=#[.int .i64 ((rd_T71 x8_2 (ji31)).f0.f0),.int .i64 ((rd_T71 x8_2 (ji31)).f0.f1),.int .i64 ((rd_T71 x8_2 (ji31)).f1),.int .i64 ((rd_T71 x8_2 (ji31)).f2),.int .i64 0]) ?_ 4 _ rfl;(with_reducible repeat (first|refine blk_drewN ?_ _|refine blk_drew ?_|refine blk_alloc ?_ _));refine blk_put (cs:=#[.int .i64 ((rd_T71 x8_2 (ji31)).f0.f0),.int .i64 ((rd_T71 x8_2 (ji31)).f0.f1),.int .i64 ((rd_T71 x8_2 (ji31)).f1),.int .i64 0,.int .i64 0]) ?_ 3 _ rfl;(with_reducible repeat (first|refine blk_drewN ?_ _|refine blk_drew ?_|refine blk_alloc ?_ _));refine blk_put (cs:=#[.int .i64 ((rd_T71 x8_2 (ji31)).f0.f0),.int .i64 ((rd_T71 x8_2 (ji31)).f0.f1),.int .i64 0,.int .i64 0,.int .i64 0]) ?_ 2 _ rfl;(with_reducible repeat (first|refine blk_drewN ?_ _|refine blk_drew ?_|refine blk_alloc ?_ _));refine blk_put (cs:=#[.int .i64 ((rd_T71 x8_2 (ji31)).f0.f0),.int .i64 0,.int .i64 0,.int .i64 0,.int .i64 0]) ?_ 1 _ rfl;(with_reducible repeat (first|refine blk_drewN ?_ _|refine blk_drew ?_|refine blk_alloc ?_ _));refine blk_put (cs:=#[.int .i64 0,.int .i64 0,.int .i64 0,.int .i64 0,.int .i64 0]) ?_ 0 _ rfl;(with_reducible repeat (first|refine blk_drewN ?_ _|refine blk_drew ?_|refine blk_alloc ?_ _));exact BK510.out⟩,⟨by repeat (first|(with_reducible first|exact HB.out|apply below_alloc|apply pw_below_drewN|apply below_drew1|refine below_set ?_ GE510.out)|exact HB.out)⟩⟩
         case round =>
          clear H'
          try clear c1
          try clear c2
          try clear p2
          try clear c3
          try clear c4
          try clear c5
          try clear p5
          try clear q5
          try clear hx5
          try clear c6
          try clear c6b0
          try clear c6b1
          try clear p6
          try clear c7
          try clear c7b0
          try clear c7b1
          try clear c7b2
          try clear c11
          try clear c14
          try clear c14b0
          try clear c15
          try clear c15b0
          try clear c16
          try clear c16b0
          try clear c18
          try clear c18b0
          try clear c23
          try clear c23b0
          try clear c24
          try clear c24b0
          try clear c25
          try clear c30
          try clear c32
          try clear c32b0
          try clear c33
          try clear c33b0
          try clear hcz20_0
          try clear hcz20_1
          try clear hcz27_0
          try clear hcz27_1
          try clear hcz36_0
          try clear hcz36_1
          try clear hcz36_2
          try clear hcz36_3
          try clear hcz36_4
          try clear hfz20_0
          try clear hfz20_1
          try clear hfz27_0
          try clear hfz27_1
          try clear hfz36_0
          try clear hfz36_1
          try clear hfz36_2
          try clear hfz36_3
          try clear hfz36_4
          try clear hx501_0
          try clear hx501_1
          try clear hx504_0
          try clear hx504_1
          try clear hx504_2
          try clear hx504_3
          try clear hx504_4
          try clear hx508_0
          try clear hx508_1
          try clear hx508_2
          try clear hx508_3
          try clear hx508_4
          try clear hx509_0
          try clear hx509_1
          try clear hx509_2
          try clear hx509_3
          try clear hx509_4
          try clear p2
          try clear p501
          try clear p504
          try clear p508
          try clear p509
          try clear q501
          try clear q504
          try clear q508
          try clear q509
          obtain ⟨x66_3,x511000_3,x511001_3,x511002_3,x511003_3,x511004_3,rfl,HA,HK3,HO_64,BK510,HB⟩:=hrel
          cases gk with
          | zero => exact absurd HA.out (by simp [difference_CheckRefute.l1])
          | succ k3 =>
           have H:=HA.out
           clear HA
           simp only [difference_CheckRefute.l1] at H
           by_cases c37 : x66_3 < (x8_2.length : Int)
           ·rw [if_pos c37] at H
            have c37b0 : decide (x66_3 < (x8_2.length : Int)) = true:=decide_eq_true c37
            clear c37
            by_cases c38 : 0 ≤ x66_3
            ·rw [if_pos c38] at H
             have c38b0 : decide (0 ≤ x66_3) = true:=decide_eq_true c38
             clear c38
             by_cases c39 : x66_3 < (x8_2.length : Int)
             ·rw [if_pos c39] at H
              have c39b0 : decide (x66_3 < (x8_2.length : Int)) = true:=decide_eq_true c39
              clear c39
              by_cases c40 : ((rd_T71 x8_2 x66_3).f1) = x511003_3
              ·rw [if_pos c40] at H
               have c40b0 : (((rd_T71 x8_2 x66_3).f1) == x511003_3) = true:=beq_iff_eq.mpr c40
               have c40b1 : (((rd_T71 x8_2 x66_3).f1) != x511003_3) = false:=bne_eq_false_iff_eq.mpr c40
               clear c40
               have H':=Aside0.mk H
               clear H
               have p511 : 0 ≤ (x66_3 : Int):=of_decide_eq_true (by first|(with_reducible assumption)|assumption)
               have q511 : x66_3 < (x8_2.length : Int):=of_decide_eq_true (by first|(with_reducible assumption)|assumption)
               obtain ⟨ad511,e511,hx511_0,hx511_1,hx511_2,hx511_3,hx511_4⟩:=at_T71 (Kd.R_reads' HO_64.out).2.2 x66_3 p511 q511
               obtain rfl : ad509 = ad511:=(by injection e511)
               replace p511:=eq_true p511
               replace q511:=eq_true q511
               go_wp2_with (first|((with_reducible refine gate_dst (N:=15) rfl ?_);(try (refine gate_guard (by rfl) ?_;dsimp only));refine box_event ?hg (N:=15) ?hd (cs:=#[.int .i64 0,.int .i64 0,.int .i64 0,.int .i64 0,.int .i64 0]) (t:=71) ?hr ?_;(case hd=>rfl);(case hg=>rfl);(case hr=>first|(go_simp;done)|(go_simp;rfl));intro gb512 hg w41 hbox hb;have n0_:=Aside0.mk (Kd.R_below (Kd.R_elderB (by (with_reducible repeat (first|apply Kd.R_alloc|apply Kd.R_drewN|apply Kd.R_drew));exact HO_64.out) gb512 (Nat.le_of_eq hg.symm)) hb);have n1_:=Aside0.mk (blk_below (g:=gb510) (o:=.cells #[.int .i64 x511000_3,.int .i64 x511001_3,.int .i64 x511002_3,.int .i64 x511003_3,.int .i64 x511004_3] 71 (0,0)) (by (with_reducible repeat (first|refine blk_drewN ?_ _|refine blk_drew ?_|refine blk_alloc ?_ _));exact BK510.out) hb);have n2_:=Aside0.mk (below_step (by repeat (first|(with_reducible first|exact HB.out|apply below_alloc|apply pw_below_drewN|apply below_drew1|refine below_set ?_ GE510.out)|exact HB.out)) hb);have n3_:=Aside0.mk (hbox);have n4_:=Aside0.mk ((by rw [hg];exact (below_size (by repeat (first|(with_reducible first|exact HB.out|apply below_alloc|apply pw_below_drewN|apply below_drew1|refine below_set ?_ GE510.out)|exact HB.out))) : w.heap.size ≤ gb512));have n5_:=Aside0.mk ((by rw [hg];exact (below_size (by repeat (first|(with_reducible first|exact HB.out|apply below_alloc|apply pw_below_drewN|apply below_drew1|refine below_set ?_ GE510.out)|exact HB.out))) : w.heap.size ≤ gb512));have n6_:=Aside0.mk ((by rw [hg];exact Nat.ne_of_lt (blk_lt (g:=gb510) (o:=.cells #[.int .i64 x511000_3,.int .i64 x511001_3,.int .i64 x511002_3,.int .i64 x511003_3,.int .i64 x511004_3] 71 (0,0)) (by (with_reducible repeat (first|refine blk_drewN ?_ _|refine blk_drew ?_|refine blk_alloc ?_ _));exact BK510.out)) : gb510 ≠ gb512));have n7_:=Aside0.mk ((by rw [hg];exact Nat.ne_of_gt (blk_lt (g:=gb510) (o:=.cells #[.int .i64 x511000_3,.int .i64 x511001_3,.int .i64 x511002_3,.int .i64 x511003_3,.int .i64 x511004_3] 71 (0,0)) (by (with_reducible repeat (first|refine blk_drewN ?_ _|refine blk_drew ?_|refine blk_alloc ?_ _));exact BK510.out)) : gb512 ≠ gb510));clear HO_64;clear BK510;clear HB;have HO_64:=n0_;have BK510:=n1_;have HB:=n2_;have BK512:=n3_;have GW512:=n4_;have GE512:=n5_;have NB510_512:=n6_;have NB512_510:=n7_;clear n0_ n1_ n2_ n3_ n4_ n5_ n6_ n7_;clear hb hbox hg;have hnb42:=NB512_510.out;have hnc42:=NB510_512.out;have hcz43_0 : w41.cell? ⟨gb512,0,none⟩ = some (.int .i64 0):=(blk_cell BK512.out 0).trans rfl;have hcz43_1 : w41.cell? ⟨gb512,1,none⟩ = some (.int .i64 0):=(blk_cell BK512.out 1).trans rfl;have hcz43_2 : w41.cell? ⟨gb512,2,none⟩ = some (.int .i64 0):=(blk_cell BK512.out 2).trans rfl;have hcz43_3 : w41.cell? ⟨gb512,3,none⟩ = some (.int .i64 0):=(blk_cell BK512.out 3).trans rfl;have hcz43_4 : w41.cell? ⟨gb512,4,none⟩ = some (.int .i64 0):=(blk_cell BK512.out 4).trans rfl;have hfz43_0:=blk_frozen BK512.out 0;have hfz43_1:=blk_frozen BK512.out 1;have hfz43_2:=blk_frozen BK512.out 2;have hfz43_3:=blk_frozen BK512.out 3;have hfz43_4:=blk_frozen BK512.out 4;have hcz44_0 : w41.cell? ⟨gb510,0,none⟩ = some (.int .i64 x511000_3):=(blk_cell BK510.out 0).trans rfl;have hcz44_1 : w41.cell? ⟨gb510,1,none⟩ = some (.int .i64 x511001_3):=(blk_cell BK510.out 1).trans rfl;have hcz44_2 : w41.cell? ⟨gb510,2,none⟩ = some (.int .i64 x511002_3):=(blk_cell BK510.out 2).trans rfl;have hcz44_3 : w41.cell? ⟨gb510,3,none⟩ = some (.int .i64 x511003_3):=(blk_cell BK510.out 3).trans rfl;have hcz44_4 : w41.cell? ⟨gb510,4,none⟩ = some (.int .i64 x511004_3):=(blk_cell BK510.out 4).trans rfl;have hfz44_0:=blk_frozen BK510.out 0;have hfz44_1:=blk_frozen BK510.out 1;have hfz44_2:=blk_frozen BK510.out 2;have hfz44_3:=blk_frozen BK510.out 3;have hfz44_4:=blk_frozen BK510.out 4))
               go_roundg k3
               case measure=>have:=HJ3.out;have:=HK2.out;have:=HK3.out;omega
               case rel=>exact ⟨(wrap64 (x66_3 + 1)),((rd_T71 x8_2 x66_3).f0.f0),((rd_T71 x8_2 x66_3).f0.f1),((rd_T71 x8_2 x66_3).f1),((rd_T71 x8_2 x66_3).f2),((rd_T71 x8_2 x66_3).f3),(by first|rfl|(simp;done)|(simp [*];done)),H',⟨by have:=HJ3.out;have:=HK2.out;have:=HK3.out;omega⟩,⟨by (with_reducible repeat (first|apply Kd.R_alloc|apply Kd.R_drewN|apply Kd.R_drew));exact Kd.R_mono (Kd.R_far (p:=⟨gb510,4,none⟩) (Kd.R_far (p:=⟨gb510,3,none⟩) (Kd.R_far (p:=⟨gb510,2,none⟩) (Kd.R_far (p:=⟨gb510,1,none⟩) (Kd.R_far (p:=⟨gb510,0,none⟩) (Kd.R_far (p:=⟨gb512,4,none⟩) (Kd.R_far (p:=⟨gb512,3,none⟩) (Kd.R_far (p:=⟨gb512,2,none⟩) (Kd.R_far (p:=⟨gb512,1,none⟩) (Kd.R_far (p:=⟨gb512,0,none⟩) (Kd.R_mono (Kd.R_mono HO_64.out (fun k_ hk=>(⟨hk,hk.2⟩ : _ ∧ k_ ≠ gb512))) (fun k_ hk=>(⟨hk,hk.1.1⟩ : _ ∧ k_ ≠ gb510))) (fun _ hk=>hk.1.2) (.int .i64 ((rd_T71 x8_2 x66_3).f0.f0))) (fun _ hk=>hk.1.2) (.int .i64 ((rd_T71 x8_2 x66_3).f0.f1))) (fun _ hk=>hk.1.2) (.int .i64 ((rd_T71 x8_2 x66_3).f1))) (fun _ hk=>hk.1.2) (.int .i64 ((rd_T71 x8_2 x66_3).f2))) (fun _ hk=>hk.1.2) (.int .i64 ((rd_T71 x8_2 x66_3).f3))) (fun _ hk=>hk.2) (.int .i64 ((rd_T71 x8_2 x66_3).f0.f0))) (fun _ hk=>hk.2) (.int .i64 ((rd_T71 x8_2 x66_3).f0.f1))) (fun _ hk=>hk.2) (.int .i64 ((rd_T71 x8_2 x66_3).f1))) (fun _ hk=>hk.2) (.int .i64 ((rd_T71 x8_2 x66_3).f2))) (fun _ hk=>hk.2) (.int .i64 ((rd_T71 x8_2 x66_3).f3))) (fun _ hk=>hk.1.1.1)⟩,⟨by (with_reducible repeat (first|refine blk_drewN ?_ _|refine blk_drew ?_|refine blk_alloc ?_ _));refine blk_put (cs:=#[.int .i64 ((rd_T71 x8_2 x66_3).f0.f0),.int .i64 ((rd_T71 x8_2 x66_3).f0.f1),.int .i64 ((rd_T71 x8_2 x66_3).f1),.int .i64 ((rd_T71 x8_2 x66_3).f2),.int .i64 x511004_3]) ?_ 4 _ rfl;(with_reducible repeat (first|refine blk_drewN ?_ _|refine blk_drew ?_|refine blk_alloc ?_ _));refine blk_put (cs:=#[.int .i64 ((rd_T71 x8_2 x66_3).f0.f0),.int .i64 ((rd_T71 x8_2 x66_3).f0.f1),.int .i64 ((rd_T71 x8_2 x66_3).f1),.int .i64 x511003_3,.int .i64 x511004_3]) ?_ 3 _ rfl;(with_reducible repeat (first|refine blk_drewN ?_ _|refine blk_drew ?_|refine blk_alloc ?_ _));refine blk_put (cs:=#[.int .i64 ((rd_T71 x8_2 x66_3).f0.f0),.int .i64 ((rd_T71 x8_2 x66_3).f0.f1),.int .i64 x511002_3,.int .i64 x511003_3,.int .i64 x511004_3]) ?_ 2 _ rfl;(with_reducible repeat (first|refine blk_drewN ?_ _|refine blk_drew ?_|refine blk_alloc ?_ _));refine blk_put (cs:=#[.int .i64 ((rd_T71 x8_2 x66_3).f0.f0),.int .i64 x511001_3,.int .i64 x511002_3,.int .i64 x511003_3,.int .i64 x511004_3]) ?_ 1 _ rfl;(with_reducible repeat (first|refine blk_drewN ?_ _|refine blk_drew ?_|refine blk_alloc ?_ _));refine blk_put (cs:=#[.int .i64 x511000_3,.int .i64 x511001_3,.int .i64 x511002_3,.int .i64 x511003_3,.int .i64 x511004_3]) ?_ 0 _ rfl;(with_reducible repeat (first|refine blk_drewN ?_ _|refine blk_drew ?_|refine blk_alloc ?_ _));refine blk_far ?_ NB510_512.out _;(with_reducible repeat (first|refine blk_drewN ?_ _|refine blk_drew ?_|refine blk_alloc ?_ _));refine blk_far ?_ NB510_512.out _;(with_reducible repeat (first|refine blk_drewN ?_ _|refine blk_drew ?_|refine blk_alloc ?_ _));refine blk_far ?_ NB510_512.out _;(with_reducible repeat (first|refine blk_drewN ?_ _|refine blk_drew ?_|refine blk_alloc ?_ _));refine blk_far ?_ NB510_512.out _;(with_reducible repeat (first|refine blk_drewN ?_ _|refine blk_drew ?_|refine blk_alloc ?_ _));refine blk_far ?_ NB510_512.out _;(with_reducible repeat (first|refine blk_drewN ?_ _|refine blk_drew ?_|refine blk_alloc ?_ _));exact BK510.out⟩,⟨by repeat (first|(with_reducible first|exact HB.out|apply below_alloc|apply pw_below_drewN|apply below_drew1|refine below_set ?_ GE510.out|refine below_set ?_ GE512.out)|exact HB.out)⟩⟩
              ·rw [if_neg c40] at H
               have c40b0 : (((rd_T71 x8_2 x66_3).f1) == x511003_3) = false:=beq_eq_false_iff_ne.mpr c40
               have c40b1 : (((rd_T71 x8_2 x66_3).f1) != x511003_3) = true:=bne_iff_ne.mpr c40
               obtain rfl:=Option.some.inj H
               have p511 : 0 ≤ (x66_3 : Int):=of_decide_eq_true (by first|(with_reducible assumption)|assumption)
               have q511 : x66_3 < (x8_2.length : Int):=of_decide_eq_true (by first|(with_reducible assumption)|assumption)
               obtain ⟨ad511,e511,hx511_0,hx511_1,hx511_2,hx511_3,hx511_4⟩:=at_T71 (Kd.R_reads' HO_64.out).2.2 x66_3 p511 q511
               obtain rfl : ad509 = ad511:=(by injection e511)
               replace p511:=eq_true p511
               replace q511:=eq_true q511
               go_wp2_with (first|((with_reducible refine gate_dst (N:=15) rfl ?_);(try (refine gate_guard (by rfl) ?_;dsimp only));refine box_event ?hg (N:=15) ?hd (cs:=#[.int .i64 0,.int .i64 0,.int .i64 0,.int .i64 0,.int .i64 0]) (t:=71) ?hr ?_;(case hd=>rfl);(case hg=>rfl);(case hr=>first|(go_simp;done)|(go_simp;rfl));intro gb512 hg w45 hbox hb;have n0_:=Aside0.mk (Kd.R_below (Kd.R_elderB (by (with_reducible repeat (first|apply Kd.R_alloc|apply Kd.R_drewN|apply Kd.R_drew));exact HO_64.out) gb512 (Nat.le_of_eq hg.symm)) hb);have n1_:=Aside0.mk (blk_below (g:=gb510) (o:=.cells #[.int .i64 x511000_3,.int .i64 x511001_3,.int .i64 x511002_3,.int .i64 x511003_3,.int .i64 x511004_3] 71 (0,0)) (by (with_reducible repeat (first|refine blk_drewN ?_ _|refine blk_drew ?_|refine blk_alloc ?_ _));exact BK510.out) hb);have n2_:=Aside0.mk (below_step (by repeat (first|(with_reducible first|exact HB.out|apply below_alloc|apply pw_below_drewN|apply below_drew1|refine below_set ?_ GE510.out)|exact HB.out)) hb);have n3_:=Aside0.mk (hbox);have n4_:=Aside0.mk ((by rw [hg];exact (below_size (by repeat (first|(with_reducible first|exact HB.out|apply below_alloc|apply pw_below_drewN|apply below_drew1|refine below_set ?_ GE510.out)|exact HB.out))) : w.heap.size ≤ gb512));have n5_:=Aside0.mk ((by rw [hg];exact (below_size (by repeat (first|(with_reducible first|exact HB.out|apply below_alloc|apply pw_below_drewN|apply below_drew1|refine below_set ?_ GE510.out)|exact HB.out))) : w.heap.size ≤ gb512));have n6_:=Aside0.mk ((by rw [hg];exact Nat.ne_of_lt (blk_lt (g:=gb510) (o:=.cells #[.int .i64 x511000_3,.int .i64 x511001_3,.int .i64 x511002_3,.int .i64 x511003_3,.int .i64 x511004_3] 71 (0,0)) (by (with_reducible repeat (first|refine blk_drewN ?_ _|refine blk_drew ?_|refine blk_alloc ?_ _));exact BK510.out)) : gb510 ≠ gb512));have n7_:=Aside0.mk ((by rw [hg];exact Nat.ne_of_gt (blk_lt (g:=gb510) (o:=.cells #[.int .i64 x511000_3,.int .i64 x511001_3,.int .i64 x511002_3,.int .i64 x511003_3,.int .i64 x511004_3] 71 (0,0)) (by (with_reducible repeat (first|refine blk_drewN ?_ _|refine blk_drew ?_|refine blk_alloc ?_ _));exact BK510.out)) : gb512 ≠ gb510));clear HO_64;clear BK510;clear HB;have HO_64:=n0_;have BK510:=n1_;have HB:=n2_;have BK512:=n3_;have GW512:=n4_;have GE512:=n5_;have NB510_512:=n6_;have NB512_510:=n7_;clear n0_ n1_ n2_ n3_ n4_ n5_ n6_ n7_;clear hb hbox hg;have hnb46:=NB512_510.out;have hnc46:=NB510_512.out;have hcz47_0 : w45.cell? ⟨gb512,0,none⟩ = some (.int .i64 0):=(blk_cell BK512.out 0).trans rfl;have hcz47_1 : w45.cell? ⟨gb512,1,none⟩ = some (.int .i64 0):=(blk_cell BK512.out 1).trans rfl;have hcz47_2 : w45.cell? ⟨gb512,2,none⟩ = some (.int .i64 0):=(blk_cell BK512.out 2).trans rfl;have hcz47_3 : w45.cell? ⟨gb512,3,none⟩ = some (.int .i64 0):=(blk_cell BK512.out 3).trans rfl;have hcz47_4 : w45.cell? ⟨gb512,4,none⟩ = some (.int .i64 0):=(blk_cell BK512.out 4).trans rfl;have hfz47_0:=blk_frozen BK512.out 0;have hfz47_1:=blk_frozen BK512.out 1;have hfz47_2:=blk_frozen BK512.out 2;have hfz47_3:=blk_frozen BK512.out 3;have hfz47_4:=blk_frozen BK512.out 4;have hcz48_0 : w45.cell? ⟨gb510,0,none⟩ = some (.int .i64 x511000_3):=(blk_cell BK510.out 0).trans rfl;have hcz48_1 : w45.cell? ⟨gb510,1,none⟩ = some (.int .i64 x511001_3):=(blk_cell BK510.out 1).trans rfl;have hcz48_2 : w45.cell? ⟨gb510,2,none⟩ = some (.int .i64 x511002_3):=(blk_cell BK510.out 2).trans rfl;have hcz48_3 : w45.cell? ⟨gb510,3,none⟩ = some (.int .i64 x511003_3):=(blk_cell BK510.out 3).trans rfl;have hcz48_4 : w45.cell? ⟨gb510,4,none⟩ = some (.int .i64 x511004_3):=(blk_cell BK510.out 4).trans rfl;have hfz48_0:=blk_frozen BK510.out 0;have hfz48_1:=blk_frozen BK510.out 1;have hfz48_2:=blk_frozen BK510.out 2;have hfz48_3:=blk_frozen BK510.out 3;have hfz48_4:=blk_frozen BK510.out 4))
               go_ret
               exact ⟨by first|rfl|(simp [errW_none,errW_some] <;> rfl)|(simp only [← hji31];first|rfl|(simp [errW_none,errW_some] <;> rfl))|(simp [*,errW_none,errW_some] <;> rfl),by repeat (first|(with_reducible first|exact HB.out|apply below_alloc|apply pw_below_drewN|apply below_drew1|refine below_set ?_ GE510.out|refine below_set ?_ GE512.out)|exact HB.out)⟩
             ·rw [if_neg c39] at H
              exact absurd H (by simp)
            ·rw [if_neg c38] at H
             exact absurd H (by simp)
           ·rw [if_neg c37] at H
            have c37b0 : decide (x66_3 < (x8_2.length : Int)) = false:=decide_eq_false c37
            clear c37
            obtain rfl:=Option.some.inj H
            go_wp2
            go_ret
            exact ⟨by first|rfl|(simp [errW_none,errW_some] <;> rfl)|(simp only [← hji31];first|rfl|(simp [errW_none,errW_some] <;> rfl))|(simp [*,errW_none,errW_some] <;> rfl),by repeat (first|(with_reducible first|exact HB.out|apply below_alloc|apply pw_below_drewN|apply below_drew1|refine below_set ?_ GE510.out)|exact HB.out)⟩
        ·rw [if_neg c33] at H
         exact absurd H (by simp)
       ·rw [if_neg c32] at H
        exact absurd H (by simp)

end Go.Proofs.Yteebkkdbkkibmaa.Pr
