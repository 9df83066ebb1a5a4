/- Functions of this claim and what their calls compute, written by wip/tools/mp.py, a variant of the kit printer. Conditions: each theorem has its own. -/
import Derived.Test.YteebkkdbkkibmaaPr0
import Derived.Test.YteebkkdbkkibmaaPr13
namespace Go.Proofs.Yteebkkdbkkibmaa.Pr
open Go.RowKit Go.Proofs.YteebkkdbkkibmaaW.PrintWords Go.Proofs.YteebkkdbkkibmaaW.PrintLast Go.Proofs.YteebkkdbkkibmaaW.PrintMore
attribute [local go_sem] max2_int min2_int max_two min_two max_three min_three max_four min_four   -- for this text's walks alone
set_option linter.unusedVariables false
set_option linter.unusedSimpArgs false

/-! ### scarfjointref03_Valid: function 31 -/
mutual
def scarfjointref03_Valid.j0 : Nat → Int → List (S26) → Bool → Option (Int)
 | 0,_,_,_ => none
 | k + 1,x0,x1,x12 => if x12 = true then (some 6) else (if (x1.length : Int) > 40 then (some 3) else (scarfjointref03_Valid.l0 k x0 x1 0))
def scarfjointref03_Valid.l0 : Nat → Int → List (S26) → Int → Option (Int)
 | 0,_,_,_ => none
 | k + 1,x0,x1,x5 => if x5 < (x1.length : Int) then (if 0 ≤ x5 then ((scarfjointref03_One.f k x0 ((rd_T26 x1 x5).f0) ((rd_T26 x1 x5).f1.f0) ((rd_T26 x1 x5).f1.f1) ((rd_T26 x1 x5).f2.f0) ((rd_T26 x1 x5).f2.f1)).bind fun t290 => (if t290 = 0 then (scarfjointref03_Valid.l0 k x0 x1 (wrap64 (x5 + 1))) else (some t290))) else (none)) else (some 0)
end
def scarfjointref03_Valid.f (k : Nat) (a0 : Int) (l1 : List (S26)) : Option (Int):=if a0 < 0 then (scarfjointref03_Valid.j0 k a0 l1 true) else (scarfjointref03_Valid.j0 k a0 l1 (decide (a0 > 12)))
theorem scarfjointref03_Valid.mono_l : ∀ k,(∀ y0 y1 y2,LeO (scarfjointref03_Valid.j0 k y0 y1 y2) (scarfjointref03_Valid.j0 (k + 1) y0 y1 y2)) ∧ (∀ y0 y1 y2,LeO (scarfjointref03_Valid.l0 k y0 y1 y2) (scarfjointref03_Valid.l0 (k + 1) y0 y1 y2))
 | 0 => ⟨fun _ _ _ r h => by simp [scarfjointref03_Valid.j0] at h,fun _ _ _ r h => by simp [scarfjointref03_Valid.l0] at h⟩
 | k + 1 => by
  obtain ⟨ih0,ih1⟩:=scarfjointref03_Valid.mono_l k
  refine ⟨?_,?_⟩
  ·intro y0 y1 y2
   unfold scarfjointref03_Valid.j0
   repeat' first
   | (with_reducible exact ih0 _ _ _)
   | (with_reducible exact ih1 _ _ _)
   | (with_reducible exact scarfjointref03_One.mono _ _ _ _ _ _ _)
   | (with_reducible exact LeO.refl _)
   | (with_reducible exact LeO.none _)
   | (with_reducible refine LeO.ite ?_ ?_)
   | (with_reducible refine LeO.bind ?_ (fun _ => ?_))
   | exact ih0 _ _ _
   | exact ih1 _ _ _
   | exact scarfjointref03_One.mono _ _ _ _ _ _ _
   | exact LeO.none _
   | refine LeO.ite ?_ ?_
   | refine LeO.bind ?_ (fun _ => ?_)
  ·intro y0 y1 y2
   unfold scarfjointref03_Valid.l0
   repeat' first
   | (with_reducible exact ih0 _ _ _)
   | (with_reducible exact ih1 _ _ _)
   | (with_reducible exact scarfjointref03_One.mono _ _ _ _ _ _ _)
   | (with_reducible exact LeO.refl _)
   | (with_reducible exact LeO.none _)
   | (with_reducible refine LeO.ite ?_ ?_)
   | (with_reducible refine LeO.bind ?_ (fun _ => ?_))
   | exact ih0 _ _ _
   | exact ih1 _ _ _
   | exact scarfjointref03_One.mono _ _ _ _ _ _ _
   | exact LeO.none _
   | refine LeO.ite ?_ ?_
   | refine LeO.bind ?_ (fun _ => ?_)
theorem scarfjointref03_Valid.mono : ∀ a0 a1 k,LeO (scarfjointref03_Valid.f k a0 a1) (scarfjointref03_Valid.f (k + 1) a0 a1):=by
 intro a0 a1 k
 obtain ⟨ih0,ih1⟩:=scarfjointref03_Valid.mono_l k
 unfold scarfjointref03_Valid.f
 repeat' first
   | (with_reducible exact ih0 _ _ _)
   | (with_reducible exact ih1 _ _ _)
   | (with_reducible exact scarfjointref03_One.mono _ _ _ _ _ _ _)
   | (with_reducible exact LeO.refl _)
   | (with_reducible exact LeO.none _)
   | (with_reducible refine LeO.ite ?_ ?_)
   | (with_reducible refine LeO.bind ?_ (fun _ => ?_))
   | exact ih0 _ _ _
   | exact ih1 _ _ _
   | exact scarfjointref03_One.mono _ _ _ _ _ _ _
   | exact LeO.none _
   | refine LeO.ite ?_ ?_
   | refine LeO.bind ?_ (fun _ => ?_)
set_option maxHeartbeats 8000000 in
set_option maxRecDepth 100000 in
theorem scarfjointref03_Valid.calls (k : Nat) (a0 : Int) (A1 : Option Addr) (c1 : Nat) (l1 : List (S26)) (r : Int) (w : World) (hr1 : Kd.C k26 w A1 l1.length l1) (hc1 : l1.length ≤ c1) (h : scarfjointref03_Valid.f k a0 l1 = some r) :
  Calls Try.prog 31 #[.int .i64 a0,.slice A1 l1.length c1] w fun e w'=>e = .returned (.int .i64 r) ∧ Below w.heap.size w w':=by
 have hu26:=Try.underlying26
 have HR1:=Aside0.mk hr1
 have HC1:=Aside0.mk hc1
 clear hr1 hc1
 have HB:=Aside0.mk (Below.refl w.heap.size w)
 have H : (if a0 < 0 then (scarfjointref03_Valid.j0 k a0 l1 true) else (scarfjointref03_Valid.j0 k a0 l1 (decide (a0 > 12)))) = some r:=h
 clear h
 have HC3:=Aside0.mk H
 clear H
 go_enter Try.func31,Try.ntmps31
 go_upto_region 1 with (fail)
 go_cut [12] (fun v12 wc=>∃ (kq : Nat) (x12_2 : Bool),v12 = .bool x12_2 ∧ Aside0 (scarfjointref03_Valid.j0 kq a0 l1 x12_2 = some r) ∧ Aside0 (kq ≤ k) ∧ Aside0 (Below w.heap.size w wc))
 case first =>
  have H:=HC3.out
  clear HC3
  by_cases c4 : a0 < 0
  ·rw [if_pos c4] at H
   have c4b0 : decide (a0 < 0) = true:=decide_eq_true c4
   clear c4
   (first|rw [c4b0]|(simp only [i64_w,i32_w];rw [c4b0])|skip)
   have H':=Aside0.mk H
   clear H
   go_wp2
   go_meet
   case rel=>exact ⟨_,(true),(by first|rfl|(simp;done)|(simp [*];done)),H',⟨by first|omega|exact Nat.le_refl _⟩,⟨by repeat (first|(with_reducible first|exact HB.out|apply below_alloc|apply pw_below_drewN|apply below_drew1)|exact HB.out)⟩⟩
  ·rw [if_neg c4] at H
   have c4b0 : decide (a0 < 0) = false:=decide_eq_false c4
   clear c4
   (first|rw [c4b0]|(simp only [i64_w,i32_w];rw [c4b0])|skip)
   have H':=Aside0.mk H
   clear H
   go_wp2
   go_meet
   case rel=>exact ⟨_,(decide (a0 > 12)),(by first|rfl|(simp;done)|(simp [*];done)),H',⟨by first|omega|exact Nat.le_refl _⟩,⟨by repeat (first|(with_reducible first|exact HB.out|apply below_alloc|apply pw_below_drewN|apply below_drew1)|exact HB.out)⟩⟩
 case rest =>
  clear HC3
  try clear c1
  try clear p2
  try clear c3
  try clear c4
  try clear c4b0
  obtain ⟨kq,x12_2,rfl,HA,HJ2,HB⟩:=hcut
  cases kq with
  | zero => exact absurd HA.out (by simp [scarfjointref03_Valid.j0])
  | succ kj2 =>
   have H:=HA.out
   clear HA
   simp only [scarfjointref03_Valid.j0] at H
   by_cases c5 : x12_2 = true
   ·subst c5
    have H1 : (some 6) = some r:=by rw [if_pos rfl] at H;exact H
    clear H
    have H:=H1
    clear H1
    obtain rfl:=Option.some.inj H
    go_wp2
    go_ret
    exact ⟨by first|rfl|(simp [errW_none,errW_some] <;> rfl)|(simp [*,errW_none,errW_some] <;> rfl),by repeat (first|(with_reducible first|exact HB.out|apply below_alloc|apply pw_below_drewN|apply below_drew1)|exact HB.out)⟩
   ·replace c5:=Bool.eq_false_iff.mpr c5
    subst c5
    have H1 : (if (l1.length : Int) > 40 then (some 3) else (scarfjointref03_Valid.l0 kj2 a0 l1 0)) = some r:=by rw [if_neg (show ¬ (false = true) by decide)] at H;exact H
    clear H
    have H:=H1
    clear H1
    by_cases c6 : (l1.length : Int) > 40
    ·rw [if_pos c6] at H
     have c6b0 : decide (40 < (l1.length : Int)) = true:=decide_eq_true c6
     have c6b1 : decide (40 < l1.length) = true:=decide_eq_true (by omega)
     clear c6
     obtain rfl:=Option.some.inj H
     go_wp2
     go_ret
     exact ⟨by first|rfl|(simp [errW_none,errW_some] <;> rfl)|(simp [*,errW_none,errW_some] <;> rfl),by repeat (first|(with_reducible first|exact HB.out|apply below_alloc|apply pw_below_drewN|apply below_drew1)|exact HB.out)⟩
    ·rw [if_neg c6] at H
     have c6b0 : decide (40 < (l1.length : Int)) = false:=decide_eq_false c6
     have c6b1 : decide (40 < l1.length) = false:=decide_eq_false (by omega)
     clear c6
     have H':=Aside0.mk H
     clear H
     go_wp2
     go_loopg [5] kj2 (fun kq v5 w'=>∃ (x5_2 : Int),v5 = .int .i64 x5_2 ∧ Aside0 (scarfjointref03_Valid.l0 kq a0 l1 x5_2 = some r) ∧ Aside0 (kq ≤ kj2) ∧ Aside0 (Below w.heap.size w w'))
     case atStart=>exact ⟨(0),(by first|rfl|(simp;done)|(simp [*];done)),H',⟨Nat.le_refl _⟩,⟨by repeat (first|(with_reducible first|exact HB.out|apply below_alloc|apply pw_below_drewN|apply below_drew1)|exact HB.out)⟩⟩
     case round =>
      clear H'
      try clear c1
      try clear p2
      try clear c3
      try clear c4
      try clear c4b0
      try clear c5
      try clear c6
      try clear c6b0
      try clear c6b1
      try clear p2
      obtain ⟨x5_2,rfl,HA,HK2,HB⟩:=hrel
      cases gk with
      | zero => exact absurd HA.out (by simp [scarfjointref03_Valid.l0])
      | succ k2 =>
       have H:=HA.out
       clear HA
       simp only [scarfjointref03_Valid.l0] at H
       by_cases c7 : x5_2 < (l1.length : Int)
       ·rw [if_pos c7] at H
        have c7b0 : decide (x5_2 < (l1.length : Int)) = true:=decide_eq_true c7
        clear c7
        by_cases c8 : 0 ≤ x5_2
        ·rw [if_pos c8] at H
         have c8b0 : decide (0 ≤ x5_2) = true:=decide_eq_true c8
         clear c8
         replace H:=Option.bind_eq_some_iff.mp H
         obtain ⟨t290,A90,H⟩:=H
         replace H : (if t290 = 0 then (scarfjointref03_Valid.l0 k2 a0 l1 (wrap64 (x5_2 + 1))) else (some t290)) = some r:=H
         have A9:=Aside0.mk A90
         clear A90
         by_cases c10 : t290 = 0
         ·rw [if_pos c10] at H
          have c10b0 : (t290 == 0) = true:=beq_iff_eq.mpr c10
          have c10b1 : (t290 != 0) = false:=bne_eq_false_iff_eq.mpr c10
          clear c10
          have H':=Aside0.mk H
          clear H
          have p289 : 0 ≤ (x5_2 : Int):=of_decide_eq_true (by first|(with_reducible assumption)|assumption)
          have q289 : x5_2 < (l1.length : Int):=of_decide_eq_true (by first|(with_reducible assumption)|assumption)
          obtain ⟨ad289,e289,hx289_0,hx289_1,hx289_2,hx289_3,hx289_4⟩:=at_T26 HR1.out x5_2 p289 q289
          cases e289
          replace hx289_0:=(HB.out.cell (World.block_lt_of_cell? w _ hx289_0)).trans hx289_0
          replace hx289_1:=(HB.out.cell (World.block_lt_of_cell? w _ hx289_1)).trans hx289_1
          replace hx289_2:=(HB.out.cell (World.block_lt_of_cell? w _ hx289_2)).trans hx289_2
          replace hx289_3:=(HB.out.cell (World.block_lt_of_cell? w _ hx289_3)).trans hx289_3
          replace hx289_4:=(HB.out.cell (World.block_lt_of_cell? w _ hx289_4)).trans hx289_4
          replace p289:=eq_true p289
          replace q289:=eq_true q289
          go_wp2_with (first|((with_reducible refine gate_callee (f:=43) rfl ?_);refine goesL_ (some 27) rfl rfl Try.func43 (by kernel_rfl) rfl #[.int .i64 a0,.agg #[.int .i64 ((rd_T26 l1 x5_2).f0),.int .i64 ((rd_T26 l1 x5_2).f1.f0),.int .i64 ((rd_T26 l1 x5_2).f1.f1),.int .i64 ((rd_T26 l1 x5_2).f2.f0),.int .i64 ((rd_T26 l1 x5_2).f2.f1)]] rfl (by (try simp only [List.map_toArray,List.map_cons,List.map_nil]);first|done|rfl|(simp only [List.length_drop,List.length_take];rfl)) ?_;(with_reducible refine (scarfjointref03_One.calls k2 a0 ((rd_T26 l1 x5_2).f0) ((rd_T26 l1 x5_2).f1.f0) ((rd_T26 l1 x5_2).f1.f1) ((rd_T26 l1 x5_2).f2.f0) ((rd_T26 l1 x5_2).f2.f1) t290 _ A9.out).mono ?_);rintro e w11 ⟨rfl,hb⟩;refine ⟨_,rfl,?_⟩;have n0_:=Aside0.mk (below_step (by repeat (first|(with_reducible first|exact HB.out|apply below_alloc|apply pw_below_drewN|apply below_drew1)|exact HB.out)) hb);clear HB;have HB:=n0_;clear n0_;(try clear hb);(try clear hb2);(try clear hk);(try clear hi)))
          go_roundg k2
          case measure=>have:=HJ2.out;have:=HK2.out;omega
          case rel=>exact ⟨(wrap64 (x5_2 + 1)),(by first|rfl|(simp;done)|(simp [*];done)),H',⟨by have:=HJ2.out;have:=HK2.out;omega⟩,⟨by repeat (first|(with_reducible first|exact HB.out|apply below_alloc|apply pw_below_drewN|apply below_drew1)|exact HB.out)⟩⟩
         ·rw [if_neg c10] at H
          have c10b0 : (t290 == 0) = false:=beq_eq_false_iff_ne.mpr c10
          have c10b1 : (t290 != 0) = true:=bne_iff_ne.mpr c10
          obtain rfl:=Option.some.inj H
          have p289 : 0 ≤ (x5_2 : Int):=of_decide_eq_true (by first|(with_reducible assumption)|assumption)
          have q289 : x5_2 < (l1.length : Int):=of_decide_eq_true (by first|(with_reducible assumption)|assumption)
          obtain ⟨ad289,e289,hx289_0,hx289_1,hx289_2,hx289_3,hx289_4⟩:=at_T26 HR1.out x5_2 p289 q289
          cases e289
          replace hx289_0:=(HB.out.cell (World.block_lt_of_cell? w _ hx289_0)).trans hx289_0
          replace hx289_1:=(HB.out.cell (World.block_lt_of_cell? w _ hx289_1)).trans hx289_1
          replace hx289_2:=(HB.out.cell (World.block_lt_of_cell? w _ hx289_2)).trans hx289_2
          replace hx289_3:=(HB.out.cell (World.block_lt_of_cell? w _ hx289_3)).trans hx289_3
          replace hx289_4:=(HB.out.cell (World.block_lt_of_cell? w _ hx289_4)).trans hx289_4
          replace p289:=eq_true p289
          replace q289:=eq_true q289
          go_wp2_with (first|((with_reducible refine gate_callee (f:=43) rfl ?_);refine goesL_ (some 27) rfl rfl Try.func43 (by kernel_rfl) rfl #[.int .i64 a0,.agg #[.int .i64 ((rd_T26 l1 x5_2).f0),.int .i64 ((rd_T26 l1 x5_2).f1.f0),.int .i64 ((rd_T26 l1 x5_2).f1.f1),.int .i64 ((rd_T26 l1 x5_2).f2.f0),.int .i64 ((rd_T26 l1 x5_2).f2.f1)]] rfl (by (try simp only [List.map_toArray,List.map_cons,List.map_nil]);first|done|rfl|(simp only [List.length_drop,List.length_take];rfl)) ?_;(with_reducible refine (scarfjointref03_One.calls k2 a0 ((rd_T26 l1 x5_2).f0) ((rd_T26 l1 x5_2).f1.f0) ((rd_T26 l1 x5_2).f1.f1) ((rd_T26 l1 x5_2).f2.f0) ((rd_T26 l1 x5_2).f2.f1) t290 _ A9.out).mono ?_);rintro e w12 ⟨rfl,hb⟩;refine ⟨_,rfl,?_⟩;have n0_:=Aside0.mk (below_step (by repeat (first|(with_reducible first|exact HB.out|apply below_alloc|apply pw_below_drewN|apply below_drew1)|exact HB.out)) hb);clear HB;have HB:=n0_;clear n0_;(try clear hb);(try clear hb2);(try clear hk);(try clear hi)))
          go_ret
          exact ⟨by first|rfl|(simp [errW_none,errW_some] <;> rfl)|(simp [*,errW_none,errW_some] <;> rfl),by repeat (first|(with_reducible first|exact HB.out|apply below_alloc|apply pw_below_drewN|apply below_drew1)|exact HB.out)⟩
        ·rw [if_neg c8] at H
         exact absurd H (by simp)
       ·rw [if_neg c7] at H
        have c7b0 : decide (x5_2 < (l1.length : Int)) = false:=decide_eq_false c7
        clear c7
        obtain rfl:=Option.some.inj H
        go_wp2
        go_ret
        exact ⟨by first|rfl|(simp [errW_none,errW_some] <;> rfl)|(simp [*,errW_none,errW_some] <;> rfl),by repeat (first|(with_reducible first|exact HB.out|apply below_alloc|apply pw_below_drewN|apply below_drew1)|exact HB.out)⟩

/-! ### scarfjointref03_arcs: function 45 -/
def scarfjointref03_arcs.l0 : Nat → List (S26) → List (S79) → Int → Option ((List (S79)))
 | 0,_,_,_ => none
 | k + 1,x0,x3,x4 => if x4 < (x0.length : Int) then (if 0 ≤ x4 then (if x3.length < 3518437208883 then ((some (x3 ++ [(⟨(⟨x4,1⟩ : S55),wrap64 (((rd_T26 x0 x4).f1.f0) + 1),wrap64 (((rd_T26 x0 x4).f2.f0) + 1),wrap64 (((rd_T26 x0 x4).f2.f1) - ((rd_T26 x0 x4).f1.f1))⟩ : S79)] : List (S79))).bind fun y295 => (if ((rd_T26 x0 x4).f0) = 2 then (if y295.length < 3518437208883 then (scarfjointref03_arcs.l0 k x0 (y295 ++ [(⟨(⟨x4,(-1)⟩ : S55),wrap64 (((rd_T26 x0 x4).f2.f0) + 1),wrap64 (((rd_T26 x0 x4).f1.f0) + 1),wrap64 (-(wrap64 (((rd_T26 x0 x4).f2.f1) - ((rd_T26 x0 x4).f1.f1))))⟩ : S79)]) (wrap64 (x4 + 1))) else (none)) else (scarfjointref03_arcs.l0 k x0 y295 (wrap64 (x4 + 1))))) else (none)) else (none)) else (some x3)
def scarfjointref03_arcs.f (k : Nat) (l0 : List (S26)) : Option ((List (S79))):=scarfjointref03_arcs.l0 k l0 ([] : List (S79)) 0
theorem scarfjointref03_arcs.mono_l : ∀ k,(∀ y0 y1 y2,LeO (scarfjointref03_arcs.l0 k y0 y1 y2) (scarfjointref03_arcs.l0 (k + 1) y0 y1 y2))
 | 0 => fun _ _ _ r h => by simp [scarfjointref03_arcs.l0] at h
 | k + 1 => by
  have ih0:=scarfjointref03_arcs.mono_l k
  ·intro y0 y1 y2
   unfold scarfjointref03_arcs.l0
   repeat' first
   | (with_reducible exact ih0 _ _ _)
   | (with_reducible exact LeO.refl _)
   | (with_reducible exact LeO.none _)
   | (with_reducible refine LeO.ite ?_ ?_)
   | (with_reducible refine LeO.bind ?_ (fun _ => ?_))
   | exact ih0 _ _ _
   | exact LeO.none _
   | refine LeO.ite ?_ ?_
   | refine LeO.bind ?_ (fun _ => ?_)
theorem scarfjointref03_arcs.mono : ∀ a0 k,LeO (scarfjointref03_arcs.f k a0) (scarfjointref03_arcs.f (k + 1) a0):=by
 intro a0 k
 have ih0:=scarfjointref03_arcs.mono_l k
 unfold scarfjointref03_arcs.f
 repeat' first
   | (with_reducible exact ih0 _ _ _)
   | (with_reducible exact LeO.refl _)
   | (with_reducible exact LeO.none _)
   | (with_reducible refine LeO.ite ?_ ?_)
   | (with_reducible refine LeO.bind ?_ (fun _ => ?_))
   | exact ih0 _ _ _
   | exact LeO.none _
   | refine LeO.ite ?_ ?_
   | refine LeO.bind ?_ (fun _ => ?_)
set_option maxHeartbeats 8000000 in
set_option maxRecDepth 100000 in
theorem scarfjointref03_arcs.calls (k : Nat) (A0 : Option Addr) (c0 : Nat) (l0 : List (S26)) (r : List (S79)) (w : World) (hr0 : Kd.C k26 w A0 l0.length l0) (hc0 : l0.length ≤ c0) (h : scarfjointref03_arcs.f k l0 = some r) :
  Calls Try.prog 45 #[.slice A0 l0.length c0] w fun e w'=>∃ v0_ : Value,e = .returned (v0_) ∧ Kd.R k79 79 w' w.heap.size (fun _=>True) v0_ r ∧ Below w.heap.size w w':=by
 have hu55:=Try.underlying55
 have hu79:=Try.underlying79
 have HR0:=Aside0.mk hr0
 have HC0:=Aside0.mk hc0
 clear hr0 hc0
 have HB:=Aside0.mk (Below.refl w.heap.size w)
 have H : (scarfjointref03_arcs.l0 k l0 ([] : List (S79)) 0) = some r:=h
 clear h
 have H':=Aside0.mk H
 clear H
 go_enter Try.func45,Try.ntmps45
 go_wp2
 go_loopg [3,4] k (fun kq v3 v4 w'=>∃ (x3_1 : List (S79)) (x4_1 : Int),v4 = .int .i64 x4_1 ∧ Aside0 (scarfjointref03_arcs.l0 kq l0 x3_1 x4_1 = some r) ∧ Aside0 (kq ≤ k) ∧ Aside0 (Kd.R k79 79 w' w.heap.size (fun _=>True) v3 x3_1) ∧ Aside0 (Below w.heap.size w w'))
 case atStart=>exact ⟨(([] : List (S79))),(0),(by first|rfl|(simp;done)|(simp [*];done)),H',⟨Nat.le_refl _⟩,⟨by first|exact Kd.R_nil _ _ _ _ _|exact Kd.N_nil _ _ _ _ _|exact Kd.V_nil _ _ _ _ _|exact Kd.Q_nil _ _ _ _ _|exact Kd.S_nil _ _ _ _ _⟩,⟨by repeat (first|(with_reducible first|exact HB.out|apply below_alloc|apply pw_below_drewN|apply below_drew1)|exact HB.out)⟩⟩
 case round =>
  clear H'
  obtain ⟨x3_1,x4_1,rfl,HA,HK1,HO_3,HB⟩:=hrel
  cases gk with
  | zero => exact absurd HA.out (by simp [scarfjointref03_arcs.l0])
  | succ k1 =>
   have H:=HA.out
   clear HA
   simp only [scarfjointref03_arcs.l0] at H
   by_cases c2 : x4_1 < (l0.length : Int)
   ·rw [if_pos c2] at H
    have c2b0 : decide (x4_1 < (l0.length : Int)) = true:=decide_eq_true c2
    clear c2
    by_cases c3 : 0 ≤ x4_1
    ·rw [if_pos c3] at H
     have c3b0 : decide (0 ≤ x4_1) = true:=decide_eq_true c3
     clear c3
     by_cases c4 : x3_1.length < 3518437208883
     ·rw [if_pos c4] at H
      have LMc4:=Aside0.mk c4
      clear c4
      obtain ⟨y295,hy295⟩ : ∃ y_ : List (S79),y_ = (x3_1 ++ [(⟨(⟨x4_1,1⟩ : S55),wrap64 (((rd_T26 l0 x4_1).f1.f0) + 1),wrap64 (((rd_T26 l0 x4_1).f2.f0) + 1),wrap64 (((rd_T26 l0 x4_1).f2.f1) - ((rd_T26 l0 x4_1).f1.f1))⟩ : S79)]):=⟨_,rfl⟩
      replace H : (if ((rd_T26 l0 x4_1).f0) = 2 then (if y295.length < 3518437208883 then (scarfjointref03_arcs.l0 k1 l0 (y295 ++ [(⟨(⟨x4_1,(-1)⟩ : S55),wrap64 (((rd_T26 l0 x4_1).f2.f0) + 1),wrap64 (((rd_T26 l0 x4_1).f1.f0) + 1),wrap64 (-(wrap64 (((rd_T26 l0 x4_1).f2.f1) - ((rd_T26 l0 x4_1).f1.f1))))⟩ : S79)]) (wrap64 (x4_1 + 1))) else (none)) else (scarfjointref03_arcs.l0 k1 l0 y295 (wrap64 (x4_1 + 1)))) = some r:=by first|(rw [hy295];with_reducible exact H)|(have H2_:=(Option.bind_some _ _).symm.trans H;rw [hy295];with_reducible exact H2_)|(have H2_:=(Option.bind_some _ _).symm.trans H;with_reducible exact H2_)|with_reducible exact H|(rw [hy295];exact H)|exact H
      have Ny295:=Aside0.mk hy295
      clear hy295
      by_cases c5 : ((rd_T26 l0 x4_1).f0) = 2
      ·rw [if_pos c5] at H
       have c5b0 : (((rd_T26 l0 x4_1).f0) == 2) = true:=beq_iff_eq.mpr c5
       have c5b1 : (((rd_T26 l0 x4_1).f0) != 2) = false:=bne_eq_false_iff_eq.mpr c5
       clear c5
       by_cases c6 : y295.length < 3518437208883
       ·rw [if_pos c6] at H
        have LMc6:=Aside0.mk c6
        clear c6
        obtain ⟨y299,hy299⟩ : ∃ y_ : List (S79),y_ = (y295 ++ [(⟨(⟨x4_1,(-1)⟩ : S55),wrap64 (((rd_T26 l0 x4_1).f2.f0) + 1),wrap64 (((rd_T26 l0 x4_1).f1.f0) + 1),wrap64 (-(wrap64 (((rd_T26 l0 x4_1).f2.f1) - ((rd_T26 l0 x4_1).f1.f1))))⟩ : S79)]):=⟨_,rfl⟩
        replace H : (scarfjointref03_arcs.l0 k1 l0 y299 (wrap64 (x4_1 + 1))) = some r:=by first|(rw [hy299];with_reducible exact H)|(have H2_:=(Option.bind_some _ _).symm.trans H;rw [hy299];with_reducible exact H2_)|(have H2_:=(Option.bind_some _ _).symm.trans H;with_reducible exact H2_)|with_reducible exact H|(rw [hy299];exact H)|exact H
        have Ny299:=Aside0.mk hy299
        clear hy299
        have H':=Aside0.mk H
        clear H
        have p291 : 0 ≤ (x4_1 : Int):=of_decide_eq_true (by first|(with_reducible assumption)|assumption)
        have q291 : x4_1 < (l0.length : Int):=of_decide_eq_true (by first|(with_reducible assumption)|assumption)
        obtain ⟨ad291,e291,hx291_0,hx291_1,hx291_2,hx291_3,hx291_4⟩:=at_T26 HR0.out x4_1 p291 q291
        cases e291
        replace hx291_0:=(HB.out.cell (World.block_lt_of_cell? w _ hx291_0)).trans hx291_0
        replace hx291_1:=(HB.out.cell (World.block_lt_of_cell? w _ hx291_1)).trans hx291_1
        replace hx291_2:=(HB.out.cell (World.block_lt_of_cell? w _ hx291_2)).trans hx291_2
        replace hx291_3:=(HB.out.cell (World.block_lt_of_cell? w _ hx291_3)).trans hx291_3
        replace hx291_4:=(HB.out.cell (World.block_lt_of_cell? w _ hx291_4)).trans hx291_4
        replace p291:=eq_true p291
        replace q291:=eq_true q291
        have p292 : 0 ≤ (x4_1 : Int):=of_decide_eq_true (by first|(with_reducible assumption)|assumption)
        have q292 : x4_1 < (l0.length : Int):=of_decide_eq_true (by first|(with_reducible assumption)|assumption)
        obtain ⟨ad292,e292,hx292_0,hx292_1,hx292_2,hx292_3,hx292_4⟩:=at_T26 HR0.out x4_1 p292 q292
        obtain rfl : ad291 = ad292:=(by injection e292)
        replace hx292_0:=(HB.out.cell (World.block_lt_of_cell? w _ hx292_0)).trans hx292_0
        replace hx292_1:=(HB.out.cell (World.block_lt_of_cell? w _ hx292_1)).trans hx292_1
        replace hx292_2:=(HB.out.cell (World.block_lt_of_cell? w _ hx292_2)).trans hx292_2
        replace hx292_3:=(HB.out.cell (World.block_lt_of_cell? w _ hx292_3)).trans hx292_3
        replace hx292_4:=(HB.out.cell (World.block_lt_of_cell? w _ hx292_4)).trans hx292_4
        replace p292:=eq_true p292
        replace q292:=eq_true q292
        have p293 : 0 ≤ (x4_1 : Int):=of_decide_eq_true (by first|(with_reducible assumption)|assumption)
        have q293 : x4_1 < (l0.length : Int):=of_decide_eq_true (by first|(with_reducible assumption)|assumption)
        obtain ⟨ad293,e293,hx293_0,hx293_1,hx293_2,hx293_3,hx293_4⟩:=at_T26 HR0.out x4_1 p293 q293
        obtain rfl : ad291 = ad293:=(by injection e293)
        replace hx293_0:=(HB.out.cell (World.block_lt_of_cell? w _ hx293_0)).trans hx293_0
        replace hx293_1:=(HB.out.cell (World.block_lt_of_cell? w _ hx293_1)).trans hx293_1
        replace hx293_2:=(HB.out.cell (World.block_lt_of_cell? w _ hx293_2)).trans hx293_2
        replace hx293_3:=(HB.out.cell (World.block_lt_of_cell? w _ hx293_3)).trans hx293_3
        replace hx293_4:=(HB.out.cell (World.block_lt_of_cell? w _ hx293_4)).trans hx293_4
        replace p293:=eq_true p293
        replace q293:=eq_true q293
        have p294 : 0 ≤ (x4_1 : Int):=of_decide_eq_true (by first|(with_reducible assumption)|assumption)
        have q294 : x4_1 < (l0.length : Int):=of_decide_eq_true (by first|(with_reducible assumption)|assumption)
        obtain ⟨ad294,e294,hx294_0,hx294_1,hx294_2,hx294_3,hx294_4⟩:=at_T26 HR0.out x4_1 p294 q294
        obtain rfl : ad291 = ad294:=(by injection e294)
        replace hx294_0:=(HB.out.cell (World.block_lt_of_cell? w _ hx294_0)).trans hx294_0
        replace hx294_1:=(HB.out.cell (World.block_lt_of_cell? w _ hx294_1)).trans hx294_1
        replace hx294_2:=(HB.out.cell (World.block_lt_of_cell? w _ hx294_2)).trans hx294_2
        replace hx294_3:=(HB.out.cell (World.block_lt_of_cell? w _ hx294_3)).trans hx294_3
        replace hx294_4:=(HB.out.cell (World.block_lt_of_cell? w _ hx294_4)).trans hx294_4
        replace p294:=eq_true p294
        replace q294:=eq_true q294
        go_wp2_with (first|((with_reducible refine gate_builtin (b:=.append) (xs:=#[.tmp 41,.tmp 48]) rfl ?_);at_builtin;refine Kd.R_append k79 (w0:=w) w.heap.size rfl (.tmp 41) (.tmp 48) 76 79 (.agg #[(.int .i64 0),(.int .i64 0),(.int .i64 0),(.int .i64 0),(.int .i64 0)]) 40 rfl Try.underlying76 info79 rfl (by decide) (by omega) u3 x3_1 (⟨(⟨x4_1,1⟩ : S55),wrap64 (((rd_T26 l0 x4_1).f1.f0) + 1),wrap64 (((rd_T26 l0 x4_1).f2.f0) + 1),wrap64 (((rd_T26 l0 x4_1).f2.f1) - ((rd_T26 l0 x4_1).f1.f1))⟩ : S79) [.int .i64 x4_1,.int .i64 1,.int .i64 (wrap64 (((rd_T26 l0 x4_1).f1.f0) + 1)),.int .i64 (wrap64 (((rd_T26 l0 x4_1).f2.f0) + 1)),.int .i64 (wrap64 (((rd_T26 l0 x4_1).f2.f1) - ((rd_T26 l0 x4_1).f1.f1)))] (fun _=>True) (fun _=>False) rfl rfl ?aP (fun _ hk=>hk.elim) ?aF ?aO ?aB ?aS ?aL ?_;(case aP=>exact k79_mkM _ _ _ (⟨(⟨x4_1,1⟩ : S55),wrap64 (((rd_T26 l0 x4_1).f1.f0) + 1),wrap64 (((rd_T26 l0 x4_1).f2.f0) + 1),wrap64 (((rd_T26 l0 x4_1).f2.f1) - ((rd_T26 l0 x4_1).f1.f1))⟩ : S79));(case aB=>exact (by repeat (first|(with_reducible first|exact HB.out|apply below_alloc|apply pw_below_drewN|apply below_drew1)|exact HB.out)));(case aF=>exact (fun _ _=>trivial));(case aO=>exact (by (with_reducible repeat (first|apply Kd.R_alloc|apply Kd.R_drewN|apply Kd.R_drew));exact HO_3.out));(case aS=>exact (below_size (by repeat (first|(with_reducible first|exact HB.out|apply below_alloc|apply pw_below_drewN|apply below_drew1)|exact HB.out))));(case aL=>have:=LMc4.out;omega);intro v296 w7 ho hb hg hat;rw [← Ny295.out] at ho;have n0_:=Aside0.mk (hb);have n1_:=Aside0.mk (ho);clear HB;clear HO_3;have HB:=n0_;have HO297:=n1_;clear n0_ n1_;clear ho hb hg hat;have p298 : 0 ≤ (x4_1 : Int):=of_decide_eq_true (by first|(with_reducible assumption)|assumption);have q298 : x4_1 < (l0.length : Int):=of_decide_eq_true (by first|(with_reducible assumption)|assumption);obtain ⟨ad298,e298,hx298_0,hx298_1,hx298_2,hx298_3,hx298_4⟩:=at_T26 HR0.out x4_1 p298 q298;obtain rfl : ad291 = ad298:=(by injection e298);replace hx298_0:=(HB.out.cell (World.block_lt_of_cell? w _ hx298_0)).trans hx298_0;replace hx298_1:=(HB.out.cell (World.block_lt_of_cell? w _ hx298_1)).trans hx298_1;replace hx298_2:=(HB.out.cell (World.block_lt_of_cell? w _ hx298_2)).trans hx298_2;replace hx298_3:=(HB.out.cell (World.block_lt_of_cell? w _ hx298_3)).trans hx298_3;replace hx298_4:=(HB.out.cell (World.block_lt_of_cell? w _ hx298_4)).trans hx298_4;replace p298:=eq_true p298;replace q298:=eq_true q298)|((with_reducible refine gate_builtin (b:=.append) (xs:=#[.tmp 56,.tmp 64]) rfl ?_);at_builtin;refine Kd.R_append k79 (w0:=w) w.heap.size rfl (.tmp 56) (.tmp 64) 76 79 (.agg #[(.int .i64 0),(.int .i64 0),(.int .i64 0),(.int .i64 0),(.int .i64 0)]) 40 rfl Try.underlying76 info79 rfl (by decide) (by omega) v296 y295 (⟨(⟨x4_1,(-1)⟩ : S55),wrap64 (((rd_T26 l0 x4_1).f2.f0) + 1),wrap64 (((rd_T26 l0 x4_1).f1.f0) + 1),wrap64 (-(wrap64 (((rd_T26 l0 x4_1).f2.f1) - ((rd_T26 l0 x4_1).f1.f1))))⟩ : S79) [.int .i64 x4_1,.int .i64 (-1),.int .i64 (wrap64 (((rd_T26 l0 x4_1).f2.f0) + 1)),.int .i64 (wrap64 (((rd_T26 l0 x4_1).f1.f0) + 1)),.int .i64 (wrap64 (-(wrap64 (((rd_T26 l0 x4_1).f2.f1) - ((rd_T26 l0 x4_1).f1.f1)))))] (fun _=>True) (fun _=>False) rfl rfl ?aP (fun _ hk=>hk.elim) ?aF ?aO ?aB ?aS ?aL ?_;(case aP=>exact k79_mkM _ _ _ (⟨(⟨x4_1,(-1)⟩ : S55),wrap64 (((rd_T26 l0 x4_1).f2.f0) + 1),wrap64 (((rd_T26 l0 x4_1).f1.f0) + 1),wrap64 (-(wrap64 (((rd_T26 l0 x4_1).f2.f1) - ((rd_T26 l0 x4_1).f1.f1))))⟩ : S79));(case aB=>exact (by repeat (first|(with_reducible first|exact HB.out|apply below_alloc|apply pw_below_drewN|apply below_drew1)|exact HB.out)));(case aF=>exact (fun _ _=>trivial));(case aO=>exact (by (with_reducible repeat (first|apply Kd.R_alloc|apply Kd.R_drewN|apply Kd.R_drew));exact HO297.out));(case aS=>exact (below_size (by repeat (first|(with_reducible first|exact HB.out|apply below_alloc|apply pw_below_drewN|apply below_drew1)|exact HB.out))));(case aL=>have:=LMc6.out;omega);intro v300 w8 ho hb hg hat;rw [← Ny299.out] at ho;have n0_:=Aside0.mk (hb);have n1_:=Aside0.mk (ho);clear HB;clear HO297;have HB:=n0_;have HO301:=n1_;clear n0_ n1_;clear ho hb hg hat))
        repeat (go_quiet (first|((with_reducible refine gate_builtin (b:=.append) (xs:=#[.tmp 41,.tmp 48]) rfl ?_);at_builtin;refine Kd.R_append k79 (w0:=w) w.heap.size rfl (.tmp 41) (.tmp 48) 76 79 (.agg #[(.int .i64 0),(.int .i64 0),(.int .i64 0),(.int .i64 0),(.int .i64 0)]) 40 rfl Try.underlying76 info79 rfl (by decide) (by omega) u3 x3_1 (⟨(⟨x4_1,1⟩ : S55),wrap64 (((rd_T26 l0 x4_1).f1.f0) + 1),wrap64 (((rd_T26 l0 x4_1).f2.f0) + 1),wrap64 (((rd_T26 l0 x4_1).f2.f1) - ((rd_T26 l0 x4_1).f1.f1))⟩ : S79) [.int .i64 x4_1,.int .i64 1,.int .i64 (wrap64 (((rd_T26 l0 x4_1).f1.f0) + 1)),.int .i64 (wrap64 (((rd_T26 l0 x4_1).f2.f0) + 1)),.int .i64 (wrap64 (((rd_T26 l0 x4_1).f2.f1) - ((rd_T26 l0 x4_1).f1.f1)))] (fun _=>True) (fun _=>False) rfl rfl ?aP (fun _ hk=>hk.elim) ?aF ?aO ?aB ?aS ?aL ?_;(case aP=>exact k79_mkM _ _ _ (⟨(⟨x4_1,1⟩ : S55),wrap64 (((rd_T26 l0 x4_1).f1.f0) + 1),wrap64 (((rd_T26 l0 x4_1).f2.f0) + 1),wrap64 (((rd_T26 l0 x4_1).f2.f1) - ((rd_T26 l0 x4_1).f1.f1))⟩ : S79));(case aB=>exact (by repeat (first|(with_reducible first|exact HB.out|apply below_alloc|apply pw_below_drewN|apply below_drew1)|exact HB.out)));(case aF=>exact (fun _ _=>trivial));(case aO=>exact (by (with_reducible repeat (first|apply Kd.R_alloc|apply Kd.R_drewN|apply Kd.R_drew));exact HO_3.out));(case aS=>exact (below_size (by repeat (first|(with_reducible first|exact HB.out|apply below_alloc|apply pw_below_drewN|apply below_drew1)|exact HB.out))));(case aL=>have:=LMc4.out;omega);intro v296 w7 ho hb hg hat;rw [← Ny295.out] at ho;have n0_:=Aside0.mk (hb);have n1_:=Aside0.mk (ho);clear HB;clear HO_3;have HB:=n0_;have HO297:=n1_;clear n0_ n1_;clear ho hb hg hat;have p298 : 0 ≤ (x4_1 : Int):=of_decide_eq_true (by first|(with_reducible assumption)|assumption);have q298 : x4_1 < (l0.length : Int):=of_decide_eq_true (by first|(with_reducible assumption)|assumption);obtain ⟨ad298,e298,hx298_0,hx298_1,hx298_2,hx298_3,hx298_4⟩:=at_T26 HR0.out x4_1 p298 q298;obtain rfl : ad291 = ad298:=(by injection e298);replace hx298_0:=(HB.out.cell (World.block_lt_of_cell? w _ hx298_0)).trans hx298_0;replace hx298_1:=(HB.out.cell (World.block_lt_of_cell? w _ hx298_1)).trans hx298_1;replace hx298_2:=(HB.out.cell (World.block_lt_of_cell? w _ hx298_2)).trans hx298_2;replace hx298_3:=(HB.out.cell (World.block_lt_of_cell? w _ hx298_3)).trans hx298_3;replace hx298_4:=(HB.out.cell (World.block_lt_of_cell? w _ hx298_4)).trans hx298_4;replace p298:=eq_true p298;replace q298:=eq_true q298)|((with_reducible refine gate_builtin (b:=.append) (xs:=#[.tmp 56,.tmp 64]) rfl ?_);at_builtin;refine Kd.R_append k79 (w0:=w) w.heap.size rfl (.tmp 56) (.tmp 64) 76 79 (.agg #[(.int .i64 0),(.int .i64 0),(.int .i64 0),(.int .i64 0),(.int .i64 0)]) 40 rfl Try.underlying76 info79 rfl (by decide) (by omega) v296 y295 (⟨(⟨x4_1,(-1)⟩ : S55),wrap64 (((rd_T26 l0 x4_1).f2.f0) + 1),wrap64 (((rd_T26 l0 x4_1).f1.f0) + 1),wrap64 (-(wrap64 (((rd_T26 l0 x4_1).f2.f1) - ((rd_T26 l0 x4_1).f1.f1))))⟩ : S79) [.int .i64 x4_1,.int .i64 (-1),.int .i64 (wrap64 (((rd_T26 l0 x4_1).f2.f0) + 1)),.int .i64 (wrap64 (((rd_T26 l0 x4_1).f1.f0) + 1)),.int .i64 (wrap64 (-(wrap64 (((rd_T26 l0 x4_1).f2.f1) - ((rd_T26 l0 x4_1).f1.f1)))))] (fun _=>True) (fun _=>False) rfl rfl ?aP (fun _ hk=>hk.elim) ?aF ?aO ?aB ?aS ?aL ?_;(case aP=>exact k79_mkM _ _ _ (⟨(⟨x4_1,(-1)⟩ : S55),wrap64 (((rd_T26 l0 x4_1).f2.f0) + 1),wrap64 (((rd_T26 l0 x4_1).f1.f0) + 1),wrap64 (-(wrap64 (((rd_T26 l0 x4_1).f2.f1) - ((rd_T26 l0 x4_1).f1.f1))))⟩ : S79));(case aB=>exact (by repeat (first|(with_reducible first|exact HB.out|apply below_alloc|apply pw_below_drewN|apply below_drew1)|exact HB.out)));(case aF=>exact (fun _ _=>trivial));(case aO=>exact (by (with_reducible repeat (first|apply Kd.R_alloc|apply Kd.R_drewN|apply Kd.R_drew));exact HO297.out));(case aS=>exact (below_size (by repeat (first|(with_reducible first|exact HB.out|apply below_alloc|apply pw_below_drewN|apply below_drew1)|exact HB.out))));(case aL=>have:=LMc6.out;omega);intro v300 w8 ho hb hg hat;rw [← Ny299.out] at ho;have n0_:=Aside0.mk (hb);have n1_:=Aside0.mk (ho);clear HB;clear HO297;have HB:=n0_;have HO301:=n1_;clear n0_ n1_;clear ho hb hg hat));try go_wp2_with (first|((with_reducible refine gate_builtin (b:=.append) (xs:=#[.tmp 41,.tmp 48]) rfl ?_);at_builtin;refine Kd.R_append k79 (w0:=w) w.heap.size rfl (.tmp 41) (.tmp 48) 76 79 (.agg #[(.int .i64 0),(.int .i64 0),(.int .i64 0),(.int .i64 0),(.int .i64 0)]) 40 rfl Try.underlying76 info79 rfl (by decide) (by omega) u3 x3_1 (⟨(⟨x4_1,1⟩ : S55),wrap64 (((rd_T26 l0 x4_1).f1.f0) + 1),wrap64 (((rd_T26 l0 x4_1).f2.f0) + 1),wrap64 (((rd_T26 l0 x4_1).f2.f1) - ((rd_T26 l0 x4_1).f1.f1))⟩ : S79) [.int .i64 x4_1,.int .i64 1,.int .i64 (wrap64 (((rd_T26 l0 x4_1).f1.f0) + 1)),.int .i64 (wrap64 (((rd_T26 l0 x4_1).f2.f0) + 1)),.int .i64 (wrap64 (((rd_T26 l0 x4_1).f2.f1) - ((rd_T26 l0 x4_1).f1.f1)))] (fun _=>True) (fun _=>False) rfl rfl ?aP (fun _ hk=>hk.elim) ?aF ?aO ?aB ?aS ?aL ?_;(case aP=>exact k79_mkM _ _ _ (⟨(⟨x4_1,1⟩ : S55),wrap64 (((rd_T26 l0 x4_1).f1.f0) + 1),wrap64 (((rd_T26 l0 x4_1).f2.f0) + 1),wrap64 (((rd_T26 l0 x4_1).f2.f1) - ((rd_T26 l0 x4_1).f1.f1))⟩ : S79));(case aB=>exact (by repeat (first|(with_reducible first|exact HB.out|apply below_alloc|apply pw_below_drewN|apply below_drew1)|exact HB.out)));(case aF=>exact (fun _ _=>trivial));(case aO=>exact (by (with_reducible repeat (first|apply Kd.R_alloc|apply Kd.R_drewN|apply Kd.R_drew));exact HO_3.out));(case aS=>exact (below_size (by repeat (first|(with_reducible first|exact HB.out|apply below_alloc|apply pw_below_drewN|apply below_drew1)|exact HB.out))));(case aL=>have:=LMc4.out;omega);intro v296 w7 ho hb hg hat;rw [← Ny295.out] at ho;have n0_:=Aside0.mk (hb);have n1_:=Aside0.mk (ho);clear HB;clear HO_3;have HB:=n0_;have HO297:=n1_;clear n0_ n1_;clear ho hb hg hat;have p298 : 0 ≤ (x4_1 : Int):=of_decide_eq_true (by first|(with_reducible assumption)|assumption);have q298 : x4_1 < (l0.length : Int):=of_decide_eq_true (by first|(with_reducible assumption)|assumption);obtain ⟨ad298,e298,hx298_0,hx298_1,hx298_2,hx298_3,hx298_4⟩:=at_T26 HR0.out x4_1 p298 q298;obtain rfl : ad291 = ad298:=(by injection e298);replace hx298_0:=(HB.out.cell (World.block_lt_of_cell? w _ hx298_0)).trans hx298_0;replace hx298_1:=(HB.out.cell (World.block_lt_of_cell? w _ hx298_1)).trans hx298_1;replace hx298_2:=(HB.out.cell (World.block_lt_of_cell? w _ hx298_2)).trans hx298_2;replace hx298_3:=(HB.out.cell (World.block_lt_of_cell? w _ hx298_3)).trans hx298_3;replace hx298_4:=(HB.out.cell (World.block_lt_of_cell? w _ hx298_4)).trans hx298_4;replace p298:=eq_true p298;replace q298:=eq_true q298)|((with_reducible refine gate_builtin (b:=.append) (xs:=#[.tmp 56,.tmp 64]) rfl ?_);at_builtin;refine Kd.R_append k79 (w0:=w) w.heap.size rfl (.tmp 56) (.tmp 64) 76 79 (.agg #[(.int .i64 0),(.int .i64 0),(.int .i64 0),(.int .i64 0),(.int .i64 0)]) 40 rfl Try.underlying76 info79 rfl (by decide) (by omega) v296 y295 (⟨(⟨x4_1,(-1)⟩ : S55),wrap64 (((rd_T26 l0 x4_1).f2.f0) + 1),wrap64 (((rd_T26 l0 x4_1).f1.f0) + 1),wrap64 (-(wrap64 (((rd_T26 l0 x4_1).f2.f1) - ((rd_T26 l0 x4_1).f1.f1))))⟩ : S79) [.int .i64 x4_1,.int .i64 (-1),.int .i64 (wrap64 (((rd_T26 l0 x4_1).f2.f0) + 1)),.int .i64 (wrap64 (((rd_T26 l0 x4_1).f1.f0) + 1)),.int .i64 (wrap64 (-(wrap64 (((rd_T26 l0 x4_1).f2.f1) - ((rd_T26 l0 x4_1).f1.f1)))))] (fun _=>True) (fun _=>False) rfl rfl ?aP (fun _ hk=>hk.elim) ?aF ?aO ?aB ?aS ?aL ?_;(case aP=>exact k79_mkM _ _ _ (⟨(⟨x4_1,(-1)⟩ : S55),wrap64 (((rd_T26 l0 x4_1).f2.f0) + 1),wrap64 (((rd_T26 l0 x4_1).f1.f0) + 1),wrap64 (-(wrap64 (((rd_T26 l0 x4_1).f2.f1) - ((rd_T26 l0 x4_1).f1.f1))))⟩ : S79));(case aB=>exact (by repeat (first|(with_reducible first|exact HB.out|apply below_alloc|apply pw_below_drewN|apply below_drew1)|exact HB.out)));(case aF=>exact (fun _ _=>trivial));(case aO=>exact (by (with_reducible repeat (first|apply Kd.R_alloc|apply Kd.R_drewN|apply Kd.R_drew));exact HO297.out));(case aS=>exact (below_size (by repeat (first|(with_reducible first|exact HB.out|apply below_alloc|apply pw_below_drewN|apply below_drew1)|exact HB.out))));(case aL=>have:=LMc6.out;omega);intro v300 w8 ho hb hg hat;rw [← Ny299.out] at ho;have n0_:=Aside0.mk (hb);have n1_:=Aside0.mk (ho);clear HB;clear HO297;have HB:=n0_;have HO301:=n1_;clear n0_ n1_;clear ho hb hg hat)))
        go_roundg k1
        case measure=>have:=HK1.out;omega
        case rel=>exact ⟨(y299),(wrap64 (x4_1 + 1)),(by first|rfl|(simp;done)|(simp [*];done)),H',⟨by have:=HK1.out;omega⟩,⟨by (with_reducible repeat (first|apply Kd.R_alloc|apply Kd.R_drewN|apply Kd.R_drew));exact HO301.out⟩,⟨by repeat (first|(with_reducible first|exact HB.out|apply below_alloc|apply pw_below_drewN|apply below_drew1)|exact HB.out)⟩⟩
       ·rw [if_neg c6] at H
        exact absurd H (by simp)
      ·rw [if_neg c5] at H
       have c5b0 : (((rd_T26 l0 x4_1).f0) == 2) = false:=beq_eq_false_iff_ne.mpr c5
       have c5b1 : (((rd_T26 l0 x4_1).f0) != 2) = true:=bne_iff_ne.mpr c5
       have H':=Aside0.mk H
       clear H
       have p291 : 0 ≤ (x4_1 : Int):=of_decide_eq_true (by first|(with_reducible assumption)|assumption)
       have q291 : x4_1 < (l0.length : Int):=of_decide_eq_true (by first|(with_reducible assumption)|assumption)
       obtain ⟨ad291,e291,hx291_0,hx291_1,hx291_2,hx291_3,hx291_4⟩:=at_T26 HR0.out x4_1 p291 q291
       cases e291
       replace hx291_0:=(HB.out.cell (World.block_lt_of_cell? w _ hx291_0)).trans hx291_0
       replace hx291_1:=(HB.out.cell (World.block_lt_of_cell? w _ hx291_1)).trans hx291_1
       replace hx291_2:=(HB.out.cell (World.block_lt_of_cell? w _ hx291_2)).trans hx291_2
       replace hx291_3:=(HB.out.cell (World.block_lt_of_cell? w _ hx291_3)).trans hx291_3
       replace hx291_4:=(HB.out.cell (World.block_lt_of_cell? w _ hx291_4)).trans hx291_4
       replace p291:=eq_true p291
       replace q291:=eq_true q291
       have p292 : 0 ≤ (x4_1 : Int):=of_decide_eq_true (by first|(with_reducible assumption)|assumption)
       have q292 : x4_1 < (l0.length : Int):=of_decide_eq_true (by first|(with_reducible assumption)|assumption)
       obtain ⟨ad292,e292,hx292_0,hx292_1,hx292_2,hx292_3,hx292_4⟩:=at_T26 HR0.out x4_1 p292 q292
       obtain rfl : ad291 = ad292:=(by injection e292)
       replace hx292_0:=(HB.out.cell (World.block_lt_of_cell? w _ hx292_0)).trans hx292_0
       replace hx292_1:=(HB.out.cell (World.block_lt_of_cell? w _ hx292_1)).trans hx292_1
       replace hx292_2:=(HB.out.cell (World.block_lt_of_cell? w _ hx292_2)).trans hx292_2
       replace hx292_3:=(HB.out.cell (World.block_lt_of_cell? w _ hx292_3)).trans hx292_3
       replace hx292_4:=(HB.out.cell (World.block_lt_of_cell? w _ hx292_4)).trans hx292_4
       replace p292:=eq_true p292
       replace q292:=eq_true q292
       have p293 : 0 ≤ (x4_1 : Int):=of_decide_eq_true (by first|(with_reducible assumption)|assumption)
       have q293 : x4_1 < (l0.length : Int):=of_decide_eq_true (by first|(with_reducible assumption)|assumption)
       obtain ⟨ad293,e293,hx293_0,hx293_1,hx293_2,hx293_3,hx293_4⟩:=at_T26 HR0.out x4_1 p293 q293
       obtain rfl : ad291 = ad293:=(by injection e293)
       replace hx293_0:=(HB.out.cell (World.block_lt_of_cell? w _ hx293_0)).trans hx293_0
       replace hx293_1:=(HB.out.cell (World.block_lt_of_cell? w _ hx293_1)).trans hx293_1
       replace hx293_2:=(HB.out.cell (World.block_lt_of_cell? w _ hx293_2)).trans hx293_2
       replace hx293_3:=(HB.out.cell (World.block_lt_of_cell? w _ hx293_3)).trans hx293_3
       replace hx293_4:=(HB.out.cell (World.block_lt_of_cell? w _ hx293_4)).trans hx293_4
       replace p293:=eq_true p293
       replace q293:=eq_true q293
       have p294 : 0 ≤ (x4_1 : Int):=of_decide_eq_true (by first|(with_reducible assumption)|assumption)
       have q294 : x4_1 < (l0.length : Int):=of_decide_eq_true (by first|(with_reducible assumption)|assumption)
       obtain ⟨ad294,e294,hx294_0,hx294_1,hx294_2,hx294_3,hx294_4⟩:=at_T26 HR0.out x4_1 p294 q294
       obtain rfl : ad291 = ad294:=(by injection e294)
       replace hx294_0:=(HB.out.cell (World.block_lt_of_cell? w _ hx294_0)).trans hx294_0
       replace hx294_1:=(HB.out.cell (World.block_lt_of_cell? w _ hx294_1)).trans hx294_1
       replace hx294_2:=(HB.out.cell (World.block_lt_of_cell? w _ hx294_2)).trans hx294_2
       replace hx294_3:=(HB.out.cell (World.block_lt_of_cell? w _ hx294_3)).trans hx294_3
       replace hx294_4:=(HB.out.cell (World.block_lt_of_cell? w _ hx294_4)).trans hx294_4
       replace p294:=eq_true p294
       replace q294:=eq_true q294
       go_wp2_with (first|((with_reducible refine gate_builtin (b:=.append) (xs:=#[.tmp 41,.tmp 48]) rfl ?_);at_builtin;refine Kd.R_append k79 (w0:=w) w.heap.size rfl (.tmp 41) (.tmp 48) 76 79 (.agg #[(.int .i64 0),(.int .i64 0),(.int .i64 0),(.int .i64 0),(.int .i64 0)]) 40 rfl Try.underlying76 info79 rfl (by decide) (by omega) u3 x3_1 (⟨(⟨x4_1,1⟩ : S55),wrap64 (((rd_T26 l0 x4_1).f1.f0) + 1),wrap64 (((rd_T26 l0 x4_1).f2.f0) + 1),wrap64 (((rd_T26 l0 x4_1).f2.f1) - ((rd_T26 l0 x4_1).f1.f1))⟩ : S79) [.int .i64 x4_1,.int .i64 1,.int .i64 (wrap64 (((rd_T26 l0 x4_1).f1.f0) + 1)),.int .i64 (wrap64 (((rd_T26 l0 x4_1).f2.f0) + 1)),.int .i64 (wrap64 (((rd_T26 l0 x4_1).f2.f1) - ((rd_T26 l0 x4_1).f1.f1)))] (fun _=>True) (fun _=>False) rfl rfl ?aP (fun _ hk=>hk.elim) ?aF ?aO ?aB ?aS ?aL ?_;(case aP=>exact k79_mkM _ _ _ (⟨(⟨x4_1,1⟩ : S55),wrap64 (((rd_T26 l0 x4_1).f1.f0) + 1),wrap64 (((rd_T26 l0 x4_1).f2.f0) + 1),wrap64 (((rd_T26 l0 x4_1).f2.f1) - ((rd_T26 l0 x4_1).f1.f1))⟩ : S79));(case aB=>exact (by repeat (first|(with_reducible first|exact HB.out|apply below_alloc|apply pw_below_drewN|apply below_drew1)|exact HB.out)));(case aF=>exact (fun _ _=>trivial));(case aO=>exact (by (with_reducible repeat (first|apply Kd.R_alloc|apply Kd.R_drewN|apply Kd.R_drew));exact HO_3.out));(case aS=>exact (below_size (by repeat (first|(with_reducible first|exact HB.out|apply below_alloc|apply pw_below_drewN|apply below_drew1)|exact HB.out))));(case aL=>have:=LMc4.out;omega);intro v296 w9 ho hb hg hat;rw [← Ny295.out] at ho;have n0_:=Aside0.mk (hb);have n1_:=Aside0.mk (ho);clear HB;clear HO_3;have HB:=n0_;have HO297:=n1_;clear n0_ n1_;clear ho hb hg hat;have p298 : 0 ≤ (x4_1 : Int):=of_decide_eq_true (by first|(with_reducible assumption)|assumption);have q298 : x4_1 < (l0.length : Int):=of_decide_eq_true (by first|(with_reducible assumption)|assumption);obtain ⟨ad298,e298,hx298_0,hx298_1,hx298_2,hx298_3,hx298_4⟩:=at_T26 HR0.out x4_1 p298 q298;obtain rfl : ad291 = ad298:=(by injection e298);replace hx298_0:=(HB.out.cell (World.block_lt_of_cell? w _ hx298_0)).trans hx298_0;replace hx298_1:=(HB.out.cell (World.block_lt_of_cell? w _ hx298_1)).trans hx298_1;replace hx298_2:=(HB.out.cell (World.block_lt_of_cell? w _ hx298_2)).trans hx298_2;replace hx298_3:=(HB.out.cell (World.block_lt_of_cell? w _ hx298_3)).trans hx298_3;replace hx298_4:=(HB.out.cell (World.block_lt_of_cell? w _ hx298_4)).trans hx298_4;replace p298:=eq_true p298;replace q298:=eq_true q298))
       repeat (go_quiet (first|((with_reducible refine gate_builtin (b:=.append) (xs:=#[.tmp 41,.tmp 48]) rfl ?_);at_builtin;refine Kd.R_append k79 (w0:=w) w.heap.size rfl (.tmp 41) (.tmp 48) 76 79 (.agg #[(.int .i64 0),(.int .i64 0),(.int .i64 0),(.int .i64 0),(.int .i64 0)]) 40 rfl Try.underlying76 info79 rfl (by decide) (by omega) u3 x3_1 (⟨(⟨x4_1,1⟩ : S55),wrap64 (((rd_T26 l0 x4_1).f1.f0) + 1),wrap64 (((rd_T26 l0 x4_1).f2.f0) + 1),wrap64 (((rd_T26 l0 x4_1).f2.f1) - ((rd_T26 l0 x4_1).f1.f1))⟩ : S79) [.int .i64 x4_1,.int .i64 1,.int .i64 (wrap64 (((rd_T26 l0 x4_1).f1.f0) + 1)),.int .i64 (wrap64 (((rd_T26 l0 x4_1).f2.f0) + 1)),.int .i64 (wrap64 (((rd_T26 l0 x4_1).f2.f1) - ((rd_T26 l0 x4_1).f1.f1)))] (fun _=>True) (fun _=>False) rfl rfl ?aP (fun _ hk=>hk.elim) ?aF ?aO ?aB ?aS ?aL ?_;(case aP=>exact k79_mkM _ _ _ (⟨(⟨x4_1,1⟩ : S55),wrap64 (((rd_T26 l0 x4_1).f1.f0) + 1),wrap64 (((rd_T26 l0 x4_1).f2.f0) + 1),wrap64 (((rd_T26 l0 x4_1).f2.f1) - ((rd_T26 l0 x4_1).f1.f1))⟩ : S79));(case aB=>exact (by repeat (first|(with_reducible first|exact HB.out|apply below_alloc|apply pw_below_drewN|apply below_drew1)|exact HB.out)));(case aF=>exact (fun _ _=>trivial));(case aO=>exact (by (with_reducible repeat (first|apply Kd.R_alloc|apply Kd.R_drewN|apply Kd.R_drew));exact HO_3.out));(case aS=>exact (below_size (by repeat (first|(with_reducible first|exact HB.out|apply below_alloc|apply pw_below_drewN|apply below_drew1)|exact HB.out))));(case aL=>have:=LMc4.out;omega);intro v296 w9 ho hb hg hat;rw [← Ny295.out] at ho;have n0_:=Aside0.mk (hb);have n1_:=Aside0.mk (ho);clear HB;clear HO_3;have HB:=n0_;have HO297:=n1_;clear n0_ n1_;clear ho hb hg hat;have p298 : 0 ≤ (x4_1 : Int):=of_decide_eq_true (by first|(with_reducible assumption)|assumption);have q298 : x4_1 < (l0.length : Int):=of_decide_eq_true (by first|(with_reducible assumption)|assumption);obtain ⟨ad298,e298,hx298_0,hx298_1,hx298_2,hx298_3,hx298_4⟩:=at_T26 HR0.out x4_1 p298 q298;obtain rfl : ad291 = ad298:=(by injection e298);replace hx298_0:=(HB.out.cell (World.block_lt_of_cell? w _ hx298_0)).trans hx298_0;replace hx298_1:=(HB.out.cell (World.block_lt_of_cell? w _ hx298_1)).trans hx298_1;replace hx298_2:=(HB.out.cell (World.block_lt_of_cell? w _ hx298_2)).trans hx298_2;replace hx298_3:=(HB.out.cell (World.block_lt_of_cell? w _ hx298_3)).trans hx298_3;replace hx298_4:=(HB.out.cell (World.block_lt_of_cell? w _ hx298_4)).trans hx298_4;replace p298:=eq_true p298;replace q298:=eq_true q298));try go_wp2_with (first|((with_reducible refine gate_builtin (b:=.append) (xs:=#[.tmp 41,.tmp 48]) rfl ?_);at_builtin;refine Kd.R_append k79 (w0:=w) w.heap.size rfl (.tmp 41) (.tmp 48) 76 79 (.agg #[(.int .i64 0),(.int .i64 0),(.int .i64 0),(.int .i64 0),(.int .i64 0)]) 40 rfl Try.underlying76 info79 rfl (by decide) (by omega) u3 x3_1 (⟨(⟨x4_1,1⟩ : S55),wrap64 (((rd_T26 l0 x4_1).f1.f0) + 1),wrap64 (((rd_T26 l0 x4_1).f2.f0) + 1),wrap64 (((rd_T26 l0 x4_1).f2.f1) - ((rd_T26 l0 x4_1).f1.f1))⟩ : S79) [.int .i64 x4_1,.int .i64 1,.int .i64 (wrap64 (((rd_T26 l0 x4_1).f1.f0) + 1)),.int .i64 (wrap64 (((rd_T26 l0 x4_1).f2.f0) + 1)),.int .i64 (wrap64 (((rd_T26 l0 x4_1).f2.f1) - ((rd_T26 l0 x4_1).f1.f1)))] (fun _=>True) (fun _=>False) rfl rfl ?aP (fun _ hk=>hk.elim) ?aF ?aO ?aB ?aS ?aL ?_;(case aP=>exact k79_mkM _ _ _ (⟨(⟨x4_1,1⟩ : S55),wrap64 (((rd_T26 l0 x4_1).f1.f0) + 1),wrap64 (((rd_T26 l0 x4_1).f2.f0) + 1),wrap64 (((rd_T26 l0 x4_1).f2.f1) - ((rd_T26 l0 x4_1).f1.f1))⟩ : S79));(case aB=>exact (by repeat (first|(with_reducible first|exact HB.out|apply below_alloc|apply pw_below_drewN|apply below_drew1)|exact HB.out)));(case aF=>exact (fun _ _=>trivial));(case aO=>exact (by (with_reducible repeat (first|apply Kd.R_alloc|apply Kd.R_drewN|apply Kd.R_drew));exact HO_3.out));(case aS=>exact (below_size (by repeat (first|(with_reducible first|exact HB.out|apply below_alloc|apply pw_below_drewN|apply below_drew1)|exact HB.out))));(case aL=>have:=LMc4.out;omega);intro v296 w9 ho hb hg hat;rw [← Ny295.out] at ho;have n0_:=Aside0.mk (hb);have n1_:=Aside0.mk (ho);clear HB;clear HO_3;have HB:=n0_;have HO297:=n1_;clear n0_ n1_;clear ho hb hg hat;have p298 : 0 ≤ (x4_1 : Int):=of_decide_eq_true (by first|(with_reducible assumption)|assumption);have q298 : x4_1 < (l0.length : Int):=of_decide_eq_true (by first|(with_reducible assumption)|assumption);obtain ⟨ad298,e298,hx298_0,hx298_1,hx298_2,hx298_3,hx298_4⟩:=at_T26 HR0.out x4_1 p298 q298;obtain rfl : ad291 = ad298:=(by injection e298);replace hx298_0:=(HB.out.cell (World.block_lt_of_cell? w _ hx298_0)).trans hx298_0;replace hx298_1:=(HB.out.cell (World.block_lt_of_cell? w _ hx298_1)).trans hx298_1;replace hx298_2:=(HB.out.cell (World.block_lt_of_cell? w _ hx298_2)).trans hx298_2;replace hx298_3:=(HB.out.cell (World.block_lt_of_cell? w _ hx298_3)).trans hx298_3;replace hx298_4:=(HB.out.cell (World.block_lt_of_cell? w _ hx298_4)).trans hx298_4;replace p298:=eq_true p298;replace q298:=eq_true q298)))
       go_roundg k1
       case measure=>have:=HK1.out;omega
       case rel=>exact ⟨(y295),(wrap64 (x4_1 + 1)),(by first|rfl|(simp;done)|(simp [*];done)),H',⟨by have:=HK1.out;omega⟩,⟨by (with_reducible repeat (first|apply Kd.R_alloc|apply Kd.R_drewN|apply Kd.R_drew));exact HO297.out⟩,⟨by repeat (first|(with_reducible first|exact HB.out|apply below_alloc|apply pw_below_drewN|apply below_drew1)|exact HB.out)⟩⟩
     ·rw [if_neg c4] at H
      exact absurd H (by simp)
    ·rw [if_neg c3] at H
     exact absurd H (by simp)
   ·rw [if_neg c2] at H
    have c2b0 : decide (x4_1 < (l0.length : Int)) = false:=decide_eq_false c2
    clear c2
    obtain rfl:=Option.some.inj H
    go_wp2
    go_ret
    exact ⟨_,by first|rfl|(simp [errW_none,errW_some] <;> rfl)|(simp [*,errW_none,errW_some] <;> rfl),by (with_reducible repeat (first|apply Kd.R_alloc|apply Kd.R_drewN|apply Kd.R_drew));exact HO_3.out,by repeat (first|(with_reducible first|exact HB.out|apply below_alloc|apply pw_below_drewN|apply below_drew1)|exact HB.out)⟩

end Go.Proofs.Yteebkkdbkkibmaa.Pr
