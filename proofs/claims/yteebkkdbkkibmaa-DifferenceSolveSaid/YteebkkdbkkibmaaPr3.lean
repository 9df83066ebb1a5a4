/- Functions of this claim and what their calls compute, written by wip/tools/mp.py, a variant of the kit printer. Conditions: each theorem has its own. -/
import Derived.Test.YteebkkdbkkibmaaPr0
namespace Go.Proofs.Yteebkkdbkkibmaa.Pr
open Go.RowKit Go.Proofs.YteebkkdbkkibmaaW.PrintWords Go.Proofs.YteebkkdbkkibmaaW.PrintLast Go.Proofs.YteebkkdbkkibmaaW.PrintMore
attribute [local go_sem] max2_int min2_int max_two min_two max_three min_three max_four min_four   -- for this text's walks alone
set_option linter.unusedVariables false
set_option linter.unusedSimpArgs false

/-! ### difference_term: function 63 -/
def difference_term.f (a0 : Int) (a1_0 : Int) (a1_1 : Int) : Option (Bool):=if a1_0 ≥ (-1) then (if a1_0 < a0 then (if a1_1 ≥ (-1000000) then (some (decide (a1_1 ≤ 1000000))) else (some false)) else (some false)) else (some false)
set_option maxHeartbeats 8000000 in
set_option maxRecDepth 100000 in
theorem difference_term.calls (a0 : Int) (a1_0 : Int) (a1_1 : Int) (r : Bool) (w : World) (h : difference_term.f a0 a1_0 a1_1 = some r) :
  Calls Try.prog 63 #[.int .i64 a0,.agg #[.int .i64 a1_0,.int .i64 a1_1]] w fun e w'=>e = .returned (.bool r) ∧ Below w.heap.size w w':=by
 have hu24:=Try.underlying24
 have HB:=Aside0.mk (Below.refl w.heap.size w)
 have H : (if a1_0 ≥ (-1) then (if a1_0 < a0 then (if a1_1 ≥ (-1000000) then (some (decide (a1_1 ≤ 1000000))) else (some false)) else (some false)) else (some false)) = some r:=h
 clear h
 by_cases c3 : a1_0 ≥ (-1)
 ·rw [if_pos c3] at H
  have c3b0 : decide ((-1) ≤ a1_0) = true:=decide_eq_true c3
  clear c3
  by_cases c4 : a1_0 < a0
  ·rw [if_pos c4] at H
   have c4b0 : decide (a1_0 < a0) = true:=decide_eq_true c4
   clear c4
   by_cases c5 : a1_1 ≥ (-1000000)
   ·rw [if_pos c5] at H
    have c5b0 : decide ((-1000000) ≤ a1_1) = true:=decide_eq_true c5
    clear c5
    obtain rfl:=Option.some.inj H
    go_enter Try.func63,Try.ntmps63
    go_wp2_with (first|((with_reducible refine gate_dst (N:=3) rfl ?_);refine box_event ?hg (N:=3) ?hd (cs:=#[.int .i64 a1_0,.int .i64 a1_1]) (t:=24) ?hr ?_;(case hd=>rfl);(case hg=>rfl);(case hr=>first|(go_simp;done)|(go_simp;rfl));intro gb101 hg w6 hbox hb;have n0_:=Aside0.mk (below_step (by repeat (first|(with_reducible first|exact HB.out|apply below_alloc|apply pw_below_drewN|apply below_drew1)|exact HB.out)) hb);have n1_:=Aside0.mk (hbox);have n2_:=Aside0.mk ((by rw [hg];exact (below_size (by repeat (first|(with_reducible first|exact HB.out|apply below_alloc|apply pw_below_drewN|apply below_drew1)|exact HB.out))) : w.heap.size ≤ gb101));have n3_:=Aside0.mk ((by rw [hg];exact (below_size (by repeat (first|(with_reducible first|exact HB.out|apply below_alloc|apply pw_below_drewN|apply below_drew1)|exact HB.out))) : w.heap.size ≤ gb101));clear HB;have HB:=n0_;have BK101:=n1_;have GW101:=n2_;have GE101:=n3_;clear n0_ n1_ n2_ n3_;clear hb hbox hg;have hcz7_0 : w6.cell? ⟨gb101,0,none⟩ = some (.int .i64 a1_0):=(blk_cell BK101.out 0).trans rfl;have hcz7_1 : w6.cell? ⟨gb101,1,none⟩ = some (.int .i64 a1_1):=(blk_cell BK101.out 1).trans rfl;have hfz7_0:=blk_frozen BK101.out 0;have hfz7_1:=blk_frozen BK101.out 1))
    go_ret
    exact ⟨by first|rfl|(simp [errW_none,errW_some] <;> rfl)|(simp [*,errW_none,errW_some] <;> rfl),by repeat (first|(with_reducible first|exact HB.out|apply below_alloc|apply pw_below_drewN|apply below_drew1|refine below_set ?_ GE101.out)|exact HB.out)⟩
   ·rw [if_neg c5] at H
    have c5b0 : decide ((-1000000) ≤ a1_1) = false:=decide_eq_false c5
    clear c5
    obtain rfl:=Option.some.inj H
    go_enter Try.func63,Try.ntmps63
    go_wp2_with (first|((with_reducible refine gate_dst (N:=3) rfl ?_);refine box_event ?hg (N:=3) ?hd (cs:=#[.int .i64 a1_0,.int .i64 a1_1]) (t:=24) ?hr ?_;(case hd=>rfl);(case hg=>rfl);(case hr=>first|(go_simp;done)|(go_simp;rfl));intro gb101 hg w8 hbox hb;have n0_:=Aside0.mk (below_step (by repeat (first|(with_reducible first|exact HB.out|apply below_alloc|apply pw_below_drewN|apply below_drew1)|exact HB.out)) hb);have n1_:=Aside0.mk (hbox);have n2_:=Aside0.mk ((by rw [hg];exact (below_size (by repeat (first|(with_reducible first|exact HB.out|apply below_alloc|apply pw_below_drewN|apply below_drew1)|exact HB.out))) : w.heap.size ≤ gb101));have n3_:=Aside0.mk ((by rw [hg];exact (below_size (by repeat (first|(with_reducible first|exact HB.out|apply below_alloc|apply pw_below_drewN|apply below_drew1)|exact HB.out))) : w.heap.size ≤ gb101));clear HB;have HB:=n0_;have BK101:=n1_;have GW101:=n2_;have GE101:=n3_;clear n0_ n1_ n2_ n3_;clear hb hbox hg;have hcz9_0 : w8.cell? ⟨gb101,0,none⟩ = some (.int .i64 a1_0):=(blk_cell BK101.out 0).trans rfl;have hcz9_1 : w8.cell? ⟨gb101,1,none⟩ = some (.int .i64 a1_1):=(blk_cell BK101.out 1).trans rfl;have hfz9_0:=blk_frozen BK101.out 0;have hfz9_1:=blk_frozen BK101.out 1))
    go_ret
    exact ⟨by first|rfl|(simp [errW_none,errW_some] <;> rfl)|(simp [*,errW_none,errW_some] <;> rfl),by repeat (first|(with_reducible first|exact HB.out|apply below_alloc|apply pw_below_drewN|apply below_drew1|refine below_set ?_ GE101.out)|exact HB.out)⟩
  ·rw [if_neg c4] at H
   have c4b0 : decide (a1_0 < a0) = false:=decide_eq_false c4
   clear c4
   obtain rfl:=Option.some.inj H
   go_enter Try.func63,Try.ntmps63
   go_wp2_with (first|((with_reducible refine gate_dst (N:=3) rfl ?_);refine box_event ?hg (N:=3) ?hd (cs:=#[.int .i64 a1_0,.int .i64 a1_1]) (t:=24) ?hr ?_;(case hd=>rfl);(case hg=>rfl);(case hr=>first|(go_simp;done)|(go_simp;rfl));intro gb101 hg w10 hbox hb;have n0_:=Aside0.mk (below_step (by repeat (first|(with_reducible first|exact HB.out|apply below_alloc|apply pw_below_drewN|apply below_drew1)|exact HB.out)) hb);have n1_:=Aside0.mk (hbox);have n2_:=Aside0.mk ((by rw [hg];exact (below_size (by repeat (first|(with_reducible first|exact HB.out|apply below_alloc|apply pw_below_drewN|apply below_drew1)|exact HB.out))) : w.heap.size ≤ gb101));have n3_:=Aside0.mk ((by rw [hg];exact (below_size (by repeat (first|(with_reducible first|exact HB.out|apply below_alloc|apply pw_below_drewN|apply below_drew1)|exact HB.out))) : w.heap.size ≤ gb101));clear HB;have HB:=n0_;have BK101:=n1_;have GW101:=n2_;have GE101:=n3_;clear n0_ n1_ n2_ n3_;clear hb hbox hg;have hcz11_0 : w10.cell? ⟨gb101,0,none⟩ = some (.int .i64 a1_0):=(blk_cell BK101.out 0).trans rfl;have hcz11_1 : w10.cell? ⟨gb101,1,none⟩ = some (.int .i64 a1_1):=(blk_cell BK101.out 1).trans rfl;have hfz11_0:=blk_frozen BK101.out 0;have hfz11_1:=blk_frozen BK101.out 1))
   go_ret
   exact ⟨by first|rfl|(simp [errW_none,errW_some] <;> rfl)|(simp [*,errW_none,errW_some] <;> rfl),by repeat (first|(with_reducible first|exact HB.out|apply below_alloc|apply pw_below_drewN|apply below_drew1|refine below_set ?_ GE101.out)|exact HB.out)⟩
 ·rw [if_neg c3] at H
  have c3b0 : decide ((-1) ≤ a1_0) = false:=decide_eq_false c3
  clear c3
  obtain rfl:=Option.some.inj H
  go_enter Try.func63,Try.ntmps63
  go_wp2_with (first|((with_reducible refine gate_dst (N:=3) rfl ?_);refine box_event ?hg (N:=3) ?hd (cs:=#[.int .i64 a1_0,.int .i64 a1_1]) (t:=24) ?hr ?_;(case hd=>rfl);(case hg=>rfl);(case hr=>first|(go_simp;done)|(go_simp;rfl));intro gb101 hg w12 hbox hb;have n0_:=Aside0.mk (below_step (by repeat (first|(with_reducible first|exact HB.out|apply below_alloc|apply pw_below_drewN|apply below_drew1)|exact HB.out)) hb);have n1_:=Aside0.mk (hbox);have n2_:=Aside0.mk ((by rw [hg];exact (below_size (by repeat (first|(with_reducible first|exact HB.out|apply below_alloc|apply pw_below_drewN|apply below_drew1)|exact HB.out))) : w.heap.size ≤ gb101));have n3_:=Aside0.mk ((by rw [hg];exact (below_size (by repeat (first|(with_reducible first|exact HB.out|apply below_alloc|apply pw_below_drewN|apply below_drew1)|exact HB.out))) : w.heap.size ≤ gb101));clear HB;have HB:=n0_;have BK101:=n1_;have GW101:=n2_;have GE101:=n3_;clear n0_ n1_ n2_ n3_;clear hb hbox hg;have hcz13_0 : w12.cell? ⟨gb101,0,none⟩ = some (.int .i64 a1_0):=(blk_cell BK101.out 0).trans rfl;have hcz13_1 : w12.cell? ⟨gb101,1,none⟩ = some (.int .i64 a1_1):=(blk_cell BK101.out 1).trans rfl;have hfz13_0:=blk_frozen BK101.out 0;have hfz13_1:=blk_frozen BK101.out 1))
  go_ret
  exact ⟨by first|rfl|(simp [errW_none,errW_some] <;> rfl)|(simp [*,errW_none,errW_some] <;> rfl),by repeat (first|(with_reducible first|exact HB.out|apply below_alloc|apply pw_below_drewN|apply below_drew1|refine below_set ?_ GE101.out)|exact HB.out)⟩

/-! ### difference_one: function 40 -/
def difference_one.j0 : Nat → Int → Bool → Int → Int → Int → Int → Int → Option (Int)
 | 0,_,_,_,_,_,_,_ => none
 | k + 1,x0,x5,x103000,x103001,x103002,x103003,x103004 => if x5 = true then (some 1) else ((difference_term.f x0 x103001 x103002).bind fun t103 => (if t103 = true then ((difference_term.f x0 x103003 x103004).bind fun t104 => (if t104 = true then (some 0) else (some 6))) else (some 6)))
def difference_one.f (k : Nat) (a0 : Int) (a1_0 : Int) (a1_1 : Int) (a1_2 : Int) (a1_3 : Int) (a1_4 : Int) : Option (Int):=if a1_0 = 1 then (difference_one.j0 k a0 false a1_0 a1_1 a1_2 a1_3 a1_4) else (difference_one.j0 k a0 (a1_0 != 2) a1_0 a1_1 a1_2 a1_3 a1_4)
theorem difference_one.mono_l : ∀ k,(∀ y0 y1 y2 y3 y4 y5 y6,LeO (difference_one.j0 k y0 y1 y2 y3 y4 y5 y6) (difference_one.j0 (k + 1) y0 y1 y2 y3 y4 y5 y6))
 | 0 => fun _ _ _ _ _ _ _ r h => by simp [difference_one.j0] at h
 | k + 1 => by
  have ih0:=difference_one.mono_l k
  ·intro y0 y1 y2 y3 y4 y5 y6
   unfold difference_one.j0
   repeat' first
   | (with_reducible exact ih0 _ _ _ _ _ _ _)
   | (with_reducible exact LeO.refl _)
   | (with_reducible exact LeO.none _)
   | (with_reducible refine LeO.ite ?_ ?_)
   | (with_reducible refine LeO.bind ?_ (fun _ => ?_))
   | exact ih0 _ _ _ _ _ _ _
   | exact LeO.none _
   | refine LeO.ite ?_ ?_
   | refine LeO.bind ?_ (fun _ => ?_)
theorem difference_one.mono : ∀ a0 a1 a2 a3 a4 a5 k,LeO (difference_one.f k a0 a1 a2 a3 a4 a5) (difference_one.f (k + 1) a0 a1 a2 a3 a4 a5):=by
 intro a0 a1 a2 a3 a4 a5 k
 have ih0:=difference_one.mono_l k
 unfold difference_one.f
 repeat' first
   | (with_reducible exact ih0 _ _ _ _ _ _ _)
   | (with_reducible exact LeO.refl _)
   | (with_reducible exact LeO.none _)
   | (with_reducible refine LeO.ite ?_ ?_)
   | (with_reducible refine LeO.bind ?_ (fun _ => ?_))
   | exact ih0 _ _ _ _ _ _ _
   | exact LeO.none _
   | refine LeO.ite ?_ ?_
   | refine LeO.bind ?_ (fun _ => ?_)
set_option maxHeartbeats 8000000 in
set_option maxRecDepth 100000 in
theorem difference_one.calls (k : Nat) (a0 : Int) (a1_0 : Int) (a1_1 : Int) (a1_2 : Int) (a1_3 : Int) (a1_4 : Int) (r : Int) (w : World) (h : difference_one.f k a0 a1_0 a1_1 a1_2 a1_3 a1_4 = some r) :
  Calls Try.prog 40 #[.int .i64 a0,.agg #[.int .i64 a1_0,.int .i64 a1_1,.int .i64 a1_2,.int .i64 a1_3,.int .i64 a1_4]] w fun e w'=>e = .returned (.int .i64 r) ∧ Below w.heap.size w w':=by
 have hu26:=Try.underlying26
 have hu24:=Try.underlying24
 have HB:=Aside0.mk (Below.refl w.heap.size w)
 have H : (if a1_0 = 1 then (difference_one.j0 k a0 false a1_0 a1_1 a1_2 a1_3 a1_4) else (difference_one.j0 k a0 (a1_0 != 2) a1_0 a1_1 a1_2 a1_3 a1_4)) = some r:=h
 clear h
 have HC3:=Aside0.mk H
 clear H
 go_enter Try.func40,Try.ntmps40
 go_upto_region 1 with (first|((with_reducible refine gate_dst (N:=3) rfl ?_);refine box_event ?hg (N:=3) ?hd (cs:=#[.int .i64 a1_0,.int .i64 a1_1,.int .i64 a1_2,.int .i64 a1_3,.int .i64 a1_4]) (t:=26) ?hr ?_;(case hd=>rfl);(case hg=>rfl);(case hr=>first|(go_simp;done)|(go_simp;rfl));intro gb102 hg w4 hbox hb;have n0_:=Aside0.mk (below_step (by repeat (first|(with_reducible first|exact HB.out|apply below_alloc|apply pw_below_drewN|apply below_drew1)|exact HB.out)) hb);have n1_:=Aside0.mk (hbox);have n2_:=Aside0.mk ((by rw [hg];exact (below_size (by repeat (first|(with_reducible first|exact HB.out|apply below_alloc|apply pw_below_drewN|apply below_drew1)|exact HB.out))) : w.heap.size ≤ gb102));have n3_:=Aside0.mk ((by rw [hg];exact (below_size (by repeat (first|(with_reducible first|exact HB.out|apply below_alloc|apply pw_below_drewN|apply below_drew1)|exact HB.out))) : w.heap.size ≤ gb102));clear HB;have HB:=n0_;have BK102:=n1_;have GW102:=n2_;have GE102:=n3_;clear n0_ n1_ n2_ n3_;clear hb hbox hg))
 (try simp only [Act.put,List.setIfInBounds_toArray,List.set_cons_zero,List.set_cons_succ])
 go_cut [5] (fun v5 wc=>∃ (kq : Nat) (x5_2 : Bool),v5 = .bool x5_2 ∧ Aside0 (difference_one.j0 kq a0 x5_2 a1_0 a1_1 a1_2 a1_3 a1_4 = some r) ∧ Aside0 (kq ≤ k) ∧ Aside0 (wc.heap[gb102]? = some (.cells #[.int .i64 a1_0,.int .i64 a1_1,.int .i64 a1_2,.int .i64 a1_3,.int .i64 a1_4] 26 (0,0))) ∧ Aside0 (Below w.heap.size w wc))
 case first =>
  have H:=HC3.out
  clear HC3
  by_cases c5 : a1_0 = 1
  ·rw [if_pos c5] at H
   have c5b0 : (a1_0 == 1) = true:=beq_iff_eq.mpr c5
   have c5b1 : (a1_0 != 1) = false:=bne_eq_false_iff_eq.mpr c5
   clear c5
   (first|rw [c5b0]|(simp only [i64_w,i32_w];rw [c5b0])|skip)
   have H':=Aside0.mk H
   clear H
   have hcz6_0 : w4.cell? ⟨gb102,0,none⟩ = some (.int .i64 a1_0):=(blk_cell BK102.out 0).trans rfl
   have hcz6_1 : w4.cell? ⟨gb102,1,none⟩ = some (.int .i64 a1_1):=(blk_cell BK102.out 1).trans rfl
   have hcz6_2 : w4.cell? ⟨gb102,2,none⟩ = some (.int .i64 a1_2):=(blk_cell BK102.out 2).trans rfl
   have hcz6_3 : w4.cell? ⟨gb102,3,none⟩ = some (.int .i64 a1_3):=(blk_cell BK102.out 3).trans rfl
   have hcz6_4 : w4.cell? ⟨gb102,4,none⟩ = some (.int .i64 a1_4):=(blk_cell BK102.out 4).trans rfl
   have hfz6_0:=blk_frozen BK102.out 0
   have hfz6_1:=blk_frozen BK102.out 1
   have hfz6_2:=blk_frozen BK102.out 2
   have hfz6_3:=blk_frozen BK102.out 3
   have hfz6_4:=blk_frozen BK102.out 4
   go_wp2
   go_meet
   case rel=>exact ⟨_,(false),(by first|rfl|(simp;done)|(simp [*];done)),H',⟨by first|omega|exact Nat.le_refl _⟩,⟨by (with_reducible repeat (first|refine blk_drewN ?_ _|refine blk_drew ?_|refine blk_alloc ?_ _));exact BK102.out⟩,⟨by repeat (first|(with_reducible first|exact HB.out|apply below_alloc|apply pw_below_drewN|apply below_drew1|refine below_set ?_ GE102.out)|exact HB.out)⟩⟩
  ·rw [if_neg c5] at H
   have c5b0 : (a1_0 == 1) = false:=beq_eq_false_iff_ne.mpr c5
   have c5b1 : (a1_0 != 1) = true:=bne_iff_ne.mpr c5
   (first|rw [c5b0]|(simp only [i64_w,i32_w];rw [c5b0])|skip)
   have H':=Aside0.mk H
   clear H
   have hcz7_0 : w4.cell? ⟨gb102,0,none⟩ = some (.int .i64 a1_0):=(blk_cell BK102.out 0).trans rfl
   have hcz7_1 : w4.cell? ⟨gb102,1,none⟩ = some (.int .i64 a1_1):=(blk_cell BK102.out 1).trans rfl
   have hcz7_2 : w4.cell? ⟨gb102,2,none⟩ = some (.int .i64 a1_2):=(blk_cell BK102.out 2).trans rfl
   have hcz7_3 : w4.cell? ⟨gb102,3,none⟩ = some (.int .i64 a1_3):=(blk_cell BK102.out 3).trans rfl
   have hcz7_4 : w4.cell? ⟨gb102,4,none⟩ = some (.int .i64 a1_4):=(blk_cell BK102.out 4).trans rfl
   have hfz7_0:=blk_frozen BK102.out 0
   have hfz7_1:=blk_frozen BK102.out 1
   have hfz7_2:=blk_frozen BK102.out 2
   have hfz7_3:=blk_frozen BK102.out 3
   have hfz7_4:=blk_frozen BK102.out 4
   go_wp2
   go_meet
   case rel=>exact ⟨_,((a1_0 != 2)),(by first|rfl|(simp;done)|(simp [*];done)),H',⟨by first|omega|exact Nat.le_refl _⟩,⟨by (with_reducible repeat (first|refine blk_drewN ?_ _|refine blk_drew ?_|refine blk_alloc ?_ _));exact BK102.out⟩,⟨by repeat (first|(with_reducible first|exact HB.out|apply below_alloc|apply pw_below_drewN|apply below_drew1|refine below_set ?_ GE102.out)|exact HB.out)⟩⟩
 case rest =>
  clear HC3
  try clear p2
  try clear c4
  try clear c5
  try clear c5b0
  try clear c5b1
  try clear hcz6_0
  try clear hcz6_1
  try clear hcz6_2
  try clear hcz6_3
  try clear hcz6_4
  try clear hcz7_0
  try clear hcz7_1
  try clear hcz7_2
  try clear hcz7_3
  try clear hcz7_4
  try clear hfz6_0
  try clear hfz6_1
  try clear hfz6_2
  try clear hfz6_3
  try clear hfz6_4
  try clear hfz7_0
  try clear hfz7_1
  try clear hfz7_2
  try clear hfz7_3
  try clear hfz7_4
  obtain ⟨kq,x5_2,rfl,HA,HJ2,BK102,HB⟩:=hcut
  cases kq with
  | zero => exact absurd HA.out (by simp [difference_one.j0])
  | succ kj2 =>
   have H:=HA.out
   clear HA
   simp only [difference_one.j0] at H
   by_cases c8 : x5_2 = true
   ·subst c8
    have H1 : (some 1) = some r:=by rw [if_pos rfl] at H;exact H
    clear H
    have H:=H1
    clear H1
    obtain rfl:=Option.some.inj H
    go_wp2
    go_ret
    exact ⟨by first|rfl|(simp [errW_none,errW_some] <;> rfl)|(simp [*,errW_none,errW_some] <;> rfl),by repeat (first|(with_reducible first|exact HB.out|apply below_alloc|apply pw_below_drewN|apply below_drew1|refine below_set ?_ GE102.out)|exact HB.out)⟩
   ·replace c8:=Bool.eq_false_iff.mpr c8
    subst c8
    have H1 : ((difference_term.f a0 a1_1 a1_2).bind fun t103=>(if t103 = true then ((difference_term.f a0 a1_3 a1_4).bind fun t104=>(if t104 = true then (some 0) else (some 6))) else (some 6))) = some r:=by rw [if_neg (show ¬ (false = true) by decide)] at H;exact H
    clear H
    have H:=H1
    clear H1
    replace H:=Option.bind_eq_some_iff.mp H
    obtain ⟨t103,A90,H⟩:=H
    replace H : (if t103 = true then ((difference_term.f a0 a1_3 a1_4).bind fun t104=>(if t104 = true then (some 0) else (some 6))) else (some 6)) = some r:=H
    have A9:=Aside0.mk A90
    clear A90
    by_cases c10 : t103 = true
    ·subst c10
     have H1 : ((difference_term.f a0 a1_3 a1_4).bind fun t104=>(if t104 = true then (some 0) else (some 6))) = some r:=by rw [if_pos rfl] at H;exact H
     clear H
     have H:=H1
     clear H1
     replace H:=Option.bind_eq_some_iff.mp H
     obtain ⟨t104,A110,H⟩:=H
     replace H : (if t104 = true then (some 0) else (some 6)) = some r:=H
     have A11:=Aside0.mk A110
     clear A110
     by_cases c12 : t104 = true
     ·subst c12
      have H1 : (some 0) = some r:=by rw [if_pos rfl] at H;exact H
      clear H
      have H:=H1
      clear H1
      obtain rfl:=Option.some.inj H
      have hcz13_0 : wc.cell? ⟨gb102,0,none⟩ = some (.int .i64 a1_0):=(blk_cell BK102.out 0).trans rfl
      have hcz13_1 : wc.cell? ⟨gb102,1,none⟩ = some (.int .i64 a1_1):=(blk_cell BK102.out 1).trans rfl
      have hcz13_2 : wc.cell? ⟨gb102,2,none⟩ = some (.int .i64 a1_2):=(blk_cell BK102.out 2).trans rfl
      have hcz13_3 : wc.cell? ⟨gb102,3,none⟩ = some (.int .i64 a1_3):=(blk_cell BK102.out 3).trans rfl
      have hcz13_4 : wc.cell? ⟨gb102,4,none⟩ = some (.int .i64 a1_4):=(blk_cell BK102.out 4).trans rfl
      have hfz13_0:=blk_frozen BK102.out 0
      have hfz13_1:=blk_frozen BK102.out 1
      have hfz13_2:=blk_frozen BK102.out 2
      have hfz13_3:=blk_frozen BK102.out 3
      have hfz13_4:=blk_frozen BK102.out 4
      go_wp2_with (first|((with_reducible refine gate_callee (f:=63) rfl ?_);refine goesL_ (some 18) rfl rfl Try.func63 (by kernel_rfl) rfl #[.int .i64 a0,.agg #[.int .i64 a1_1,.int .i64 a1_2]] rfl (by (try simp only [List.map_toArray,List.map_cons,List.map_nil]);first|done|rfl|(simp only [List.length_drop,List.length_take];rfl)) ?_;(with_reducible refine (difference_term.calls a0 a1_1 a1_2 true _ A9.out).mono ?_);rintro e w14 ⟨rfl,hb⟩;refine ⟨_,rfl,?_⟩;have n0_:=Aside0.mk (blk_below (g:=gb102) (o:=.cells #[.int .i64 a1_0,.int .i64 a1_1,.int .i64 a1_2,.int .i64 a1_3,.int .i64 a1_4] 26 (0,0)) (by (with_reducible repeat (first|refine blk_drewN ?_ _|refine blk_drew ?_|refine blk_alloc ?_ _));exact BK102.out) hb);have n1_:=Aside0.mk (below_step (by repeat (first|(with_reducible first|exact HB.out|apply below_alloc|apply pw_below_drewN|apply below_drew1|refine below_set ?_ GE102.out)|exact HB.out)) hb);clear BK102;clear HB;have BK102:=n0_;have HB:=n1_;clear n0_ n1_;(try clear hb);(try clear hb2);(try clear hk);(try clear hi);have hcz15_0 : w14.cell? ⟨gb102,0,none⟩ = some (.int .i64 a1_0):=(blk_cell BK102.out 0).trans rfl;have hcz15_1 : w14.cell? ⟨gb102,1,none⟩ = some (.int .i64 a1_1):=(blk_cell BK102.out 1).trans rfl;have hcz15_2 : w14.cell? ⟨gb102,2,none⟩ = some (.int .i64 a1_2):=(blk_cell BK102.out 2).trans rfl;have hcz15_3 : w14.cell? ⟨gb102,3,none⟩ = some (.int .i64 a1_3):=(blk_cell BK102.out 3).trans rfl;have hcz15_4 : w14.cell? ⟨gb102,4,none⟩ = some (.int .i64 a1_4):=(blk_cell BK102.out 4).trans rfl;have hfz15_0:=blk_frozen BK102.out 0;have hfz15_1:=blk_frozen BK102.out 1;have hfz15_2:=blk_frozen BK102.out 2;have hfz15_3:=blk_frozen BK102.out 3;have hfz15_4:=blk_frozen BK102.out 4)|(go_at_call 63;(with_reducible refine (difference_term.calls a0 a1_3 a1_4 true _ A11.out).mono ?_);rintro e w16 ⟨rfl,hb⟩;have n0_:=Aside0.mk (blk_below (g:=gb102) (o:=.cells #[.int .i64 a1_0,.int .i64 a1_1,.int .i64 a1_2,.int .i64 a1_3,.int .i64 a1_4] 26 (0,0)) (by (with_reducible repeat (first|refine blk_drewN ?_ _|refine blk_drew ?_|refine blk_alloc ?_ _));exact BK102.out) hb);have n1_:=Aside0.mk (below_step (by repeat (first|(with_reducible first|exact HB.out|apply below_alloc|apply pw_below_drewN|apply below_drew1|refine below_set ?_ GE102.out)|exact HB.out)) hb);clear BK102;clear HB;have BK102:=n0_;have HB:=n1_;clear n0_ n1_;(try clear hb);(try clear hb2);(try clear hk);(try clear hi)))
      go_ret
      exact ⟨by first|rfl|(simp [errW_none,errW_some] <;> rfl)|(simp [*,errW_none,errW_some] <;> rfl),by repeat (first|(with_reducible first|exact HB.out|apply below_alloc|apply pw_below_drewN|apply below_drew1|refine below_set ?_ GE102.out)|exact HB.out)⟩
     ·replace c12:=Bool.eq_false_iff.mpr c12
      subst c12
      have H1 : (some 6) = some r:=by rw [if_neg (show ¬ (false = true) by decide)] at H;exact H
      clear H
      have H:=H1
      clear H1
      obtain rfl:=Option.some.inj H
      have hcz17_0 : wc.cell? ⟨gb102,0,none⟩ = some (.int .i64 a1_0):=(blk_cell BK102.out 0).trans rfl
      have hcz17_1 : wc.cell? ⟨gb102,1,none⟩ = some (.int .i64 a1_1):=(blk_cell BK102.out 1).trans rfl
      have hcz17_2 : wc.cell? ⟨gb102,2,none⟩ = some (.int .i64 a1_2):=(blk_cell BK102.out 2).trans rfl
      have hcz17_3 : wc.cell? ⟨gb102,3,none⟩ = some (.int .i64 a1_3):=(blk_cell BK102.out 3).trans rfl
      have hcz17_4 : wc.cell? ⟨gb102,4,none⟩ = some (.int .i64 a1_4):=(blk_cell BK102.out 4).trans rfl
      have hfz17_0:=blk_frozen BK102.out 0
      have hfz17_1:=blk_frozen BK102.out 1
      have hfz17_2:=blk_frozen BK102.out 2
      have hfz17_3:=blk_frozen BK102.out 3
      have hfz17_4:=blk_frozen BK102.out 4
      go_wp2_with (first|((with_reducible refine gate_callee (f:=63) rfl ?_);refine goesL_ (some 18) rfl rfl Try.func63 (by kernel_rfl) rfl #[.int .i64 a0,.agg #[.int .i64 a1_1,.int .i64 a1_2]] rfl (by (try simp only [List.map_toArray,List.map_cons,List.map_nil]);first|done|rfl|(simp only [List.length_drop,List.length_take];rfl)) ?_;(with_reducible refine (difference_term.calls a0 a1_1 a1_2 true _ A9.out).mono ?_);rintro e w18 ⟨rfl,hb⟩;refine ⟨_,rfl,?_⟩;have n0_:=Aside0.mk (blk_below (g:=gb102) (o:=.cells #[.int .i64 a1_0,.int .i64 a1_1,.int .i64 a1_2,.int .i64 a1_3,.int .i64 a1_4] 26 (0,0)) (by (with_reducible repeat (first|refine blk_drewN ?_ _|refine blk_drew ?_|refine blk_alloc ?_ _));exact BK102.out) hb);have n1_:=Aside0.mk (below_step (by repeat (first|(with_reducible first|exact HB.out|apply below_alloc|apply pw_below_drewN|apply below_drew1|refine below_set ?_ GE102.out)|exact HB.out)) hb);clear BK102;clear HB;have BK102:=n0_;have HB:=n1_;clear n0_ n1_;(try clear hb);(try clear hb2);(try clear hk);(try clear hi);have hcz19_0 : w18.cell? ⟨gb102,0,none⟩ = some (.int .i64 a1_0):=(blk_cell BK102.out 0).trans rfl;have hcz19_1 : w18.cell? ⟨gb102,1,none⟩ = some (.int .i64 a1_1):=(blk_cell BK102.out 1).trans rfl;have hcz19_2 : w18.cell? ⟨gb102,2,none⟩ = some (.int .i64 a1_2):=(blk_cell BK102.out 2).trans rfl;have hcz19_3 : w18.cell? ⟨gb102,3,none⟩ = some (.int .i64 a1_3):=(blk_cell BK102.out 3).trans rfl;have hcz19_4 : w18.cell? ⟨gb102,4,none⟩ = some (.int .i64 a1_4):=(blk_cell BK102.out 4).trans rfl;have hfz19_0:=blk_frozen BK102.out 0;have hfz19_1:=blk_frozen BK102.out 1;have hfz19_2:=blk_frozen BK102.out 2;have hfz19_3:=blk_frozen BK102.out 3;have hfz19_4:=blk_frozen BK102.out 4)|(go_at_call 63;(with_reducible refine (difference_term.calls a0 a1_3 a1_4 false _ A11.out).mono ?_);rintro e w20 ⟨rfl,hb⟩;have n0_:=Aside0.mk (blk_below (g:=gb102) (o:=.cells #[.int .i64 a1_0,.int .i64 a1_1,.int .i64 a1_2,.int .i64 a1_3,.int .i64 a1_4] 26 (0,0)) (by (with_reducible repeat (first|refine blk_drewN ?_ _|refine blk_drew ?_|refine blk_alloc ?_ _));exact BK102.out) hb);have n1_:=Aside0.mk (below_step (by repeat (first|(with_reducible first|exact HB.out|apply below_alloc|apply pw_below_drewN|apply below_drew1|refine below_set ?_ GE102.out)|exact HB.out)) hb);clear BK102;clear HB;have BK102:=n0_;have HB:=n1_;clear n0_ n1_;(try clear hb);(try clear hb2);(try clear hk);(try clear hi)))
      go_ret
      exact ⟨by first|rfl|(simp [errW_none,errW_some] <;> rfl)|(simp [*,errW_none,errW_some] <;> rfl),by repeat (first|(with_reducible first|exact HB.out|apply below_alloc|apply pw_below_drewN|apply below_drew1|refine below_set ?_ GE102.out)|exact HB.out)⟩
    ·replace c10:=Bool.eq_false_iff.mpr c10
     subst c10
     have H1 : (some 6) = some r:=by rw [if_neg (show ¬ (false = true) by decide)] at H;exact H
     clear H
     have H:=H1
     clear H1
     obtain rfl:=Option.some.inj H
     have hcz21_0 : wc.cell? ⟨gb102,0,none⟩ = some (.int .i64 a1_0):=(blk_cell BK102.out 0).trans rfl
     have hcz21_1 : wc.cell? ⟨gb102,1,none⟩ = some (.int .i64 a1_1):=(blk_cell BK102.out 1).trans rfl
     have hcz21_2 : wc.cell? ⟨gb102,2,none⟩ = some (.int .i64 a1_2):=(blk_cell BK102.out 2).trans rfl
     have hcz21_3 : wc.cell? ⟨gb102,3,none⟩ = some (.int .i64 a1_3):=(blk_cell BK102.out 3).trans rfl
     have hcz21_4 : wc.cell? ⟨gb102,4,none⟩ = some (.int .i64 a1_4):=(blk_cell BK102.out 4).trans rfl
     have hfz21_0:=blk_frozen BK102.out 0
     have hfz21_1:=blk_frozen BK102.out 1
     have hfz21_2:=blk_frozen BK102.out 2
     have hfz21_3:=blk_frozen BK102.out 3
     have hfz21_4:=blk_frozen BK102.out 4
     go_wp2_with (first|((with_reducible refine gate_callee (f:=63) rfl ?_);refine goesL_ (some 18) rfl rfl Try.func63 (by kernel_rfl) rfl #[.int .i64 a0,.agg #[.int .i64 a1_1,.int .i64 a1_2]] rfl (by (try simp only [List.map_toArray,List.map_cons,List.map_nil]);first|done|rfl|(simp only [List.length_drop,List.length_take];rfl)) ?_;(with_reducible refine (difference_term.calls a0 a1_1 a1_2 false _ A9.out).mono ?_);rintro e w22 ⟨rfl,hb⟩;refine ⟨_,rfl,?_⟩;have n0_:=Aside0.mk (blk_below (g:=gb102) (o:=.cells #[.int .i64 a1_0,.int .i64 a1_1,.int .i64 a1_2,.int .i64 a1_3,.int .i64 a1_4] 26 (0,0)) (by (with_reducible repeat (first|refine blk_drewN ?_ _|refine blk_drew ?_|refine blk_alloc ?_ _));exact BK102.out) hb);have n1_:=Aside0.mk (below_step (by repeat (first|(with_reducible first|exact HB.out|apply below_alloc|apply pw_below_drewN|apply below_drew1|refine below_set ?_ GE102.out)|exact HB.out)) hb);clear BK102;clear HB;have BK102:=n0_;have HB:=n1_;clear n0_ n1_;(try clear hb);(try clear hb2);(try clear hk);(try clear hi)))
     go_ret
     exact ⟨by first|rfl|(simp [errW_none,errW_some] <;> rfl)|(simp [*,errW_none,errW_some] <;> rfl),by repeat (first|(with_reducible first|exact HB.out|apply below_alloc|apply pw_below_drewN|apply below_drew1|refine below_set ?_ GE102.out)|exact HB.out)⟩

end Go.Proofs.Yteebkkdbkkibmaa.Pr
