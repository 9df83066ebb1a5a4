/- Functions of this claim and what their calls compute, written by wip/tools/mp.py, a variant of the kit printer. Conditions: each theorem has its own. -/
import Derived.Test.YteebkkdbkkibmaaPr0
import Derived.Test.YteebkkdbkkibmaaPr3
namespace Go.Proofs.Yteebkkdbkkibmaa.Pr
open Go.RowKit Go.Proofs.YteebkkdbkkibmaaW.PrintWords Go.Proofs.YteebkkdbkkibmaaW.PrintLast Go.Proofs.YteebkkdbkkibmaaW.PrintMore
attribute [local go_sem] max2_int min2_int max_two min_two max_three min_three max_four min_four   -- for this text's walks alone
set_option linter.unusedVariables false
set_option linter.unusedSimpArgs false

/-! ### difference_Valid: function 30 -/
mutual
def difference_Valid.j0 : Nat → Int → List (S26) → Bool → Option (Int)
 | 0,_,_,_ => none
 | k + 1,x0,x1,x13 => if x13 = true then (some 6) else (if (x1.length : Int) > 40 then (some 3) else (difference_Valid.l0 k x0 x1 (x1.length : Int) 0))
def difference_Valid.l0 : Nat → Int → List (S26) → Int → Int → Option (Int)
 | 0,_,_,_,_ => none
 | k + 1,x0,x17,x18,x19 => if x19 < x18 then (if 0 ≤ x19 then (if x19 < (x17.length : Int) then ((difference_one.f k x0 ((rd_T26 x17 x19).f0) ((rd_T26 x17 x19).f1.f0) ((rd_T26 x17 x19).f1.f1) ((rd_T26 x17 x19).f2.f0) ((rd_T26 x17 x19).f2.f1)).bind fun t107 => (if t107 = 0 then (difference_Valid.l0 k x0 x17 x18 (wrap64 (x19 + 1))) else (some t107))) else (none)) else (none)) else (some 0)
end
def difference_Valid.f (k : Nat) (a0 : Int) (l1 : List (S26)) : Option (Int):=if a0 < 0 then (difference_Valid.j0 k a0 l1 true) else (difference_Valid.j0 k a0 l1 (decide (a0 > 12)))
theorem difference_Valid.mono_l : ∀ k,(∀ y0 y1 y2,LeO (difference_Valid.j0 k y0 y1 y2) (difference_Valid.j0 (k + 1) y0 y1 y2)) ∧ (∀ y0 y1 y2 y3,LeO (difference_Valid.l0 k y0 y1 y2 y3) (difference_Valid.l0 (k + 1) y0 y1 y2 y3))
 | 0 => ⟨fun _ _ _ r h => by simp [difference_Valid.j0] at h,fun _ _ _ _ r h => by simp [difference_Valid.l0] at h⟩
 | k + 1 => by
  obtain ⟨ih0,ih1⟩:=difference_Valid.mono_l k
  refine ⟨?_,?_⟩
  ·intro y0 y1 y2
   unfold difference_Valid.j0
   repeat' first
   | (with_reducible exact ih0 _ _ _)
   | (with_reducible exact ih1 _ _ _ _)
   | (with_reducible exact difference_one.mono _ _ _ _ _ _ _)
   | (with_reducible exact LeO.refl _)
   | (with_reducible exact LeO.none _)
   | (with_reducible refine LeO.ite ?_ ?_)
   | (with_reducible refine LeO.bind ?_ (fun _ => ?_))
   | exact ih0 _ _ _
   | exact ih1 _ _ _ _
   | exact difference_one.mono _ _ _ _ _ _ _
   | exact LeO.none _
   | refine LeO.ite ?_ ?_
   | refine LeO.bind ?_ (fun _ => ?_)
  ·intro y0 y1 y2 y3
   unfold difference_Valid.l0
   repeat' first
   | (with_reducible exact ih0 _ _ _)
   | (with_reducible exact ih1 _ _ _ _)
   | (with_reducible exact difference_one.mono _ _ _ _ _ _ _)
   | (with_reducible exact LeO.refl _)
   | (with_reducible exact LeO.none _)
   | (with_reducible refine LeO.ite ?_ ?_)
   | (with_reducible refine LeO.bind ?_ (fun _ => ?_))
   | exact ih0 _ _ _
   | exact ih1 _ _ _ _
   | exact difference_one.mono _ _ _ _ _ _ _
   | exact LeO.none _
   | refine LeO.ite ?_ ?_
   | refine LeO.bind ?_ (fun _ => ?_)
theorem difference_Valid.mono : ∀ a0 a1 k,LeO (difference_Valid.f k a0 a1) (difference_Valid.f (k + 1) a0 a1):=by
 intro a0 a1 k
 obtain ⟨ih0,ih1⟩:=difference_Valid.mono_l k
 unfold difference_Valid.f
 repeat' first
   | (with_reducible exact ih0 _ _ _)
   | (with_reducible exact ih1 _ _ _ _)
   | (with_reducible exact difference_one.mono _ _ _ _ _ _ _)
   | (with_reducible exact LeO.refl _)
   | (with_reducible exact LeO.none _)
   | (with_reducible refine LeO.ite ?_ ?_)
   | (with_reducible refine LeO.bind ?_ (fun _ => ?_))
   | exact ih0 _ _ _
   | exact ih1 _ _ _ _
   | exact difference_one.mono _ _ _ _ _ _ _
   | exact LeO.none _
   | refine LeO.ite ?_ ?_
   | refine LeO.bind ?_ (fun _ => ?_)
set_option maxHeartbeats 8000000 in
set_option maxRecDepth 100000 in
theorem difference_Valid.calls (k : Nat) (a0 : Int) (A1 : Option Addr) (c1 : Nat) (l1 : List (S26)) (r : Int) (w : World) (hr1 : Kd.C k26 w A1 l1.length l1) (hc1 : l1.length ≤ c1) (h : difference_Valid.f k a0 l1 = some r) :
  Calls Try.prog 30 #[.int .i64 a0,.slice A1 l1.length c1] w fun e w'=>e = .returned (.int .i64 r) ∧ Below w.heap.size w w':=by
 have hu26:=Try.underlying26
 have HR1:=Aside0.mk hr1
 have HC1:=Aside0.mk hc1
 clear hr1 hc1
 have HB:=Aside0.mk (Below.refl w.heap.size w)
 have H : (if a0 < 0 then (difference_Valid.j0 k a0 l1 true) else (difference_Valid.j0 k a0 l1 (decide (a0 > 12)))) = some r:=h
 clear h
 have HC3:=Aside0.mk H
 clear H
 go_enter Try.func30,Try.ntmps30
 go_upto_region 1 with (fail)
 go_cut [13] (fun v13 wc=>∃ (kq : Nat) (x13_2 : Bool),v13 = .bool x13_2 ∧ Aside0 (difference_Valid.j0 kq a0 l1 x13_2 = some r) ∧ Aside0 (kq ≤ k) ∧ Aside0 (Below w.heap.size w wc))
 case first =>
  have H:=HC3.out
  clear HC3
  by_cases c4 : a0 < 0
  ·rw [if_pos c4] at H
   have c4b0 : decide (a0 < 0) = true:=decide_eq_true c4
   clear c4
   (first|rw [c4b0]|(simp only [i64_w,i32_w];rw [c4b0])|skip)
   have H':=Aside0.mk H
   clear H
   go_wp2
   go_meet
   case rel=>exact ⟨_,(true),(by first|rfl|(simp;done)|(simp [*];done)),H',⟨by first|omega|exact Nat.le_refl _⟩,⟨by repeat (first|(with_reducible first|exact HB.out|apply below_alloc|apply pw_below_drewN|apply below_drew1)|exact HB.out)⟩⟩
  ·rw [if_neg c4] at H
   have c4b0 : decide (a0 < 0) = false:=decide_eq_false c4
   clear c4
   (first|rw [c4b0]|(simp only [i64_w,i32_w];rw [c4b0])|skip)
   have H':=Aside0.mk H
   clear H
   go_wp2
   go_meet
   case rel=>exact ⟨_,(decide (a0 > 12)),(by first|rfl|(simp;done)|(simp [*];done)),H',⟨by first|omega|exact Nat.le_refl _⟩,⟨by repeat (first|(with_reducible first|exact HB.out|apply below_alloc|apply pw_below_drewN|apply below_drew1)|exact HB.out)⟩⟩
 case rest =>
  clear HC3
  try clear c1
  try clear p2
  try clear c3
  try clear c4
  try clear c4b0
  obtain ⟨kq,x13_2,rfl,HA,HJ2,HB⟩:=hcut
  cases kq with
  | zero => exact absurd HA.out (by simp [difference_Valid.j0])
  | succ kj2 =>
   have H:=HA.out
   clear HA
   simp only [difference_Valid.j0] at H
   by_cases c5 : x13_2 = true
   ·subst c5
    have H1 : (some 6) = some r:=by rw [if_pos rfl] at H;exact H
    clear H
    have H:=H1
    clear H1
    obtain rfl:=Option.some.inj H
    go_wp2
    go_ret
    exact ⟨by first|rfl|(simp [errW_none,errW_some] <;> rfl)|(simp [*,errW_none,errW_some] <;> rfl),by repeat (first|(with_reducible first|exact HB.out|apply below_alloc|apply pw_below_drewN|apply below_drew1)|exact HB.out)⟩
   ·replace c5:=Bool.eq_false_iff.mpr c5
    subst c5
    have H1 : (if (l1.length : Int) > 40 then (some 3) else (difference_Valid.l0 kj2 a0 l1 (l1.length : Int) 0)) = some r:=by rw [if_neg (show ¬ (false = true) by decide)] at H;exact H
    clear H
    have H:=H1
    clear H1
    by_cases c6 : (l1.length : Int) > 40
    ·rw [if_pos c6] at H
     have c6b0 : decide (40 < (l1.length : Int)) = true:=decide_eq_true c6
     have c6b1 : decide (40 < l1.length) = true:=decide_eq_true (by omega)
     clear c6
     obtain rfl:=Option.some.inj H
     go_wp2
     go_ret
     exact ⟨by first|rfl|(simp [errW_none,errW_some] <;> rfl)|(simp [*,errW_none,errW_some] <;> rfl),by repeat (first|(with_reducible first|exact HB.out|apply below_alloc|apply pw_below_drewN|apply below_drew1)|exact HB.out)⟩
    ·rw [if_neg c6] at H
     have c6b0 : decide (40 < (l1.length : Int)) = false:=decide_eq_false c6
     have c6b1 : decide (40 < l1.length) = false:=decide_eq_false (by omega)
     clear c6
     have H':=Aside0.mk H
     clear H
     go_wp2
     go_loopg [19] kj2 (fun kq v19 w'=>∃ (x19_2 : Int),v19 = .int .i64 x19_2 ∧ Aside0 (difference_Valid.l0 kq a0 l1 (l1.length : Int) x19_2 = some r) ∧ Aside0 (kq ≤ kj2) ∧ Aside0 (Below w.heap.size w w'))
     case atStart=>exact ⟨(0),(by first|rfl|(simp;done)|(simp [*];done)),H',⟨Nat.le_refl _⟩,⟨by repeat (first|(with_reducible first|exact HB.out|apply below_alloc|apply pw_below_drewN|apply below_drew1)|exact HB.out)⟩⟩
     case round =>
      clear H'
      try clear c1
      try clear p2
      try clear c3
      try clear c4
      try clear c4b0
      try clear c5
      try clear c6
      try clear c6b0
      try clear c6b1
      try clear p2
      obtain ⟨x19_2,rfl,HA,HK2,HB⟩:=hrel
      cases gk with
      | zero => exact absurd HA.out (by simp [difference_Valid.l0])
      | succ k2 =>
       have H:=HA.out
       clear HA
       simp only [difference_Valid.l0] at H
       by_cases c7 : x19_2 < (l1.length : Int)
       ·rw [if_pos c7] at H
        have c7b0 : decide (x19_2 < (l1.length : Int)) = true:=decide_eq_true c7
        clear c7
        by_cases c8 : 0 ≤ x19_2
        ·rw [if_pos c8] at H
         have c8b0 : decide (0 ≤ x19_2) = true:=decide_eq_true c8
         clear c8
         by_cases c9 : x19_2 < (l1.length : Int)
         ·rw [if_pos c9] at H
          have c9b0 : decide (x19_2 < (l1.length : Int)) = true:=decide_eq_true c9
          clear c9
          replace H:=Option.bind_eq_some_iff.mp H
          obtain ⟨t107,A100,H⟩:=H
          replace H : (if t107 = 0 then (difference_Valid.l0 k2 a0 l1 (l1.length : Int) (wrap64 (x19_2 + 1))) else (some t107)) = some r:=H
          have A10:=Aside0.mk A100
          clear A100
          by_cases c11 : t107 = 0
          ·rw [if_pos c11] at H
           have c11b0 : (t107 == 0) = true:=beq_iff_eq.mpr c11
           have c11b1 : (t107 != 0) = false:=bne_eq_false_iff_eq.mpr c11
           clear c11
           have H':=Aside0.mk H
           clear H
           have p105 : 0 ≤ (x19_2 : Int):=of_decide_eq_true (by first|(with_reducible assumption)|assumption)
           have q105 : x19_2 < (l1.length : Int):=of_decide_eq_true (by first|(with_reducible assumption)|assumption)
           obtain ⟨ad105,e105,hx105_0,hx105_1,hx105_2,hx105_3,hx105_4⟩:=at_T26 HR1.out x19_2 p105 q105
           cases e105
           replace hx105_0:=(HB.out.cell (World.block_lt_of_cell? w _ hx105_0)).trans hx105_0
           replace hx105_1:=(HB.out.cell (World.block_lt_of_cell? w _ hx105_1)).trans hx105_1
           replace hx105_2:=(HB.out.cell (World.block_lt_of_cell? w _ hx105_2)).trans hx105_2
           replace hx105_3:=(HB.out.cell (World.block_lt_of_cell? w _ hx105_3)).trans hx105_3
           replace hx105_4:=(HB.out.cell (World.block_lt_of_cell? w _ hx105_4)).trans hx105_4
           replace p105:=eq_true p105
           replace q105:=eq_true q105
           go_wp2_with (first|((with_reducible refine gate_dst (N:=6) rfl ?_);refine box_event ?hg (N:=6) ?hd (cs:=#[.int .i64 0,.int .i64 0,.int .i64 0,.int .i64 0,.int .i64 0]) (t:=26) ?hr ?_;(case hd=>rfl);(case hg=>rfl);(case hr=>first|(go_simp;done)|(go_simp;rfl));intro gb106 hg w12 hbox hb;have n0_:=Aside0.mk (below_step (by repeat (first|(with_reducible first|exact HB.out|apply below_alloc|apply pw_below_drewN|apply below_drew1)|exact HB.out)) hb);have n1_:=Aside0.mk (hbox);have n2_:=Aside0.mk ((by rw [hg];exact (below_size (by repeat (first|(with_reducible first|exact HB.out|apply below_alloc|apply pw_below_drewN|apply below_drew1)|exact HB.out))) : w.heap.size ≤ gb106));have n3_:=Aside0.mk ((by rw [hg];exact (below_size (by repeat (first|(with_reducible first|exact HB.out|apply below_alloc|apply pw_below_drewN|apply below_drew1)|exact HB.out))) : w.heap.size ≤ gb106));clear HB;have HB:=n0_;have BK106:=n1_;have GW106:=n2_;have GE106:=n3_;clear n0_ n1_ n2_ n3_;clear hb hbox hg;have hcz13_0 : w12.cell? ⟨gb106,0,none⟩ = some (.int .i64 0):=(blk_cell BK106.out 0).trans rfl;have hcz13_1 : w12.cell? ⟨gb106,1,none⟩ = some (.int .i64 0):=(blk_cell BK106.out 1).trans rfl;have hcz13_2 : w12.cell? ⟨gb106,2,none⟩ = some (.int .i64 0):=(blk_cell BK106.out 2).trans rfl;have hcz13_3 : w12.cell? ⟨gb106,3,none⟩ = some (.int .i64 0):=(blk_cell BK106.out 3).trans rfl;have hcz13_4 : w12.cell? ⟨gb106,4,none⟩ = some (.int .i64 0):=(blk_cell BK106.out 4).trans rfl;have hfz13_0:=blk_frozen BK106.out 0;have hfz13_1:=blk_frozen BK106.out 1;have hfz13_2:=blk_frozen BK106.out 2;have hfz13_3:=blk_frozen BK106.out 3;have hfz13_4:=blk_frozen BK106.out 4)|((with_reducible refine gate_callee (f:=40) rfl ?_);refine goesL_ (some 25) rfl rfl Try.func40 (by kernel_rfl) rfl #[.int .i64 a0,.agg #[.int .i64 ((rd_T26 l1 x19_2).f0),.int .i64 ((rd_T26 l1 x19_2).f1.f0),.int .i64 ((rd_T26 l1 x19_2).f1.f1),.int .i64 ((rd_T26 l1 x19_2).f2.f0),.int .i64 ((rd_T26 l1 x19_2).f2.f1)]] rfl (by (try simp only [List.map_toArray,List.map_cons,List.map_nil]);first|done|rfl|(simp only [List.length_drop,List.length_take];rfl)) ?_;(with_reducible refine (difference_one.calls k2 a0 ((rd_T26 l1 x19_2).f0) ((rd_T26 l1 x19_2).f1.f0) ((rd_T26 l1 x19_2).f1.f1) ((rd_T26 l1 x19_2).f2.f0) ((rd_T26 l1 x19_2).f2.f1) t107 _ A10.out).mono ?_);rintro e w14 ⟨rfl,hb⟩;refine ⟨_,rfl,?_⟩;have n0_:=Aside0.mk (blk_below (g:=gb106) (o:=.cells #[.int .i64 ((rd_T26 l1 x19_2).f0),.int .i64 ((rd_T26 l1 x19_2).f1.f0),.int .i64 ((rd_T26 l1 x19_2).f1.f1),.int .i64 ((rd_T26 l1 x19_2).f2.f0),.int .i64 ((rd_T26 l1 x19_2).f2.f1)] 26 (0,0)) (by (with_reducible repeat (first|refine blk_drewN ?_ _|refine blk_drew ?_|refine blk_alloc ?_ _));refine blk_put (cs:=#[.int .i64 ((rd_T26 l1 x19_2).f0),.int .i64 ((rd_T26 l1 x19_2).f1.f0),.int .i64 ((rd_T26 l1 x19_2).f1.f1),.int .i64 ((rd_T26 l1 x19_2).f2.f0),.int .i64 0]) ?_ 4 _ rfl;(with_reducible repeat (first|refine blk_drewN ?_ _|refine blk_drew ?_|refine blk_alloc ?_ _));refine blk_put (cs:=#[.int .i64 ((rd_T26 l1 x19_2).f0),.int .i64 ((rd_T26 l1 x19_2).f1.f0),.int .i64 ((rd_T26 l1 x19_2).f1.f1),.int .i64 0,.int .i64 0]) ?_ 3 _ rfl;(with_reducible repeat (first|refine blk_drewN ?_ _|refine blk_drew ?_|refine blk_alloc ?_ _));refine blk_put (cs:=#[.int .i64 ((rd_T26 l1 x19_2).f0),.int .i64 ((rd_T26 l1 x19_2).f1.f0),.int .i64 0,.int .i64 0,.int .i64 0]) ?_ 2 _ rfl;(with_reducible repeat (first|refine blk_drewN ?_ _|refine blk_drew ?_|refine blk_alloc ?_ _));refine blk_put (cs:=#[.int .i64 ((rd_T26 l1 x19_2).f0),.int .i64 0,.int .i64 0,.int .i64 0,.int .i64 0]) ?_ 1 _ rfl;(with_reducible repeat (first|refine blk_drewN ?_ _|refine blk_drew ?_|refine blk_alloc ?_ _));refine blk_put (cs:=#[.int .i64 0,.int .i64 0,.int .i64 0,.int .i64 0,.int .i64 0]) ?_ 0 _ rfl;(with_reducible repeat (first|refine blk_drewN ?_ _|refine blk_drew ?_|refine blk_alloc ?_ _));exact BK106.out) hb);have n1_:=Aside0.mk (below_step (by repeat (first|(with_reducible first|exact HB.out|apply below_alloc|apply pw_below_drewN|apply below_drew1|refine below_set ?_ GE106.out)|exact HB.out)) hb);clear BK106;clear HB;have BK106:=n0_;have HB:=n1_;clear n0_ n1_;(try clear hb);(try clear hb2);(try clear hk);(try clear hi)))
           go_roundg k2
           case measure=>have:=HJ2.out;have:=HK2.out;omega
           case rel=>exact ⟨(wrap64 (x19_2 + 1)),(by first|rfl|(simp;done)|(simp [*];done)),H',⟨by have:=HJ2.out;have:=HK2.out;omega⟩,⟨by repeat (first|(with_reducible first|exact HB.out|apply below_alloc|apply pw_below_drewN|apply below_drew1|refine below_set ?_ GE106.out)|exact HB.out)⟩⟩
          ·rw [if_neg c11] at H
           have c11b0 : (t107 == 0) = false:=beq_eq_false_iff_ne.mpr c11
           have c11b1 : (t107 != 0) = true:=bne_iff_ne.mpr c11
           obtain rfl:=Option.some.inj H
           have p105 : 0 ≤ (x19_2 : Int):=of_decide_eq_true (by first|(with_reducible assumption)|assumption)
           have q105 : x19_2 < (l1.length : Int):=of_decide_eq_true (by first|(with_reducible assumption)|assumption)
           obtain ⟨ad105,e105,hx105_0,hx105_1,hx105_2,hx105_3,hx105_4⟩:=at_T26 HR1.out x19_2 p105 q105
           cases e105
           replace hx105_0:=(HB.out.cell (World.block_lt_of_cell? w _ hx105_0)).trans hx105_0
           replace hx105_1:=(HB.out.cell (World.block_lt_of_cell? w _ hx105_1)).trans hx105_1
           replace hx105_2:=(HB.out.cell (World.block_lt_of_cell? w _ hx105_2)).trans hx105_2
           replace hx105_3:=(HB.out.cell (World.block_lt_of_cell? w _ hx105_3)).trans hx105_3
           replace hx105_4:=(HB.out.cell (World.block_lt_of_cell? w _ hx105_4)).trans hx105_4
           replace p105:=eq_true p105
           replace q105:=eq_true q105
           go_wp2_with (first|((with_reducible refine gate_dst (N:=6) rfl ?_);refine box_event ?hg (N:=6) ?hd (cs:=#[.int .i64 0,.int .i64 0,.int .i64 0,.int .i64 0,.int .i64 0]) (t:=26) ?hr ?_;(case hd=>rfl);(case hg=>rfl);(case hr=>first|(go_simp;done)|(go_simp;rfl));intro gb106 hg w15 hbox hb;have n0_:=Aside0.mk (below_step (by repeat (first|(with_reducible first|exact HB.out|apply below_alloc|apply pw_below_drewN|apply below_drew1)|exact HB.out)) hb);have n1_:=Aside0.mk (hbox);have n2_:=Aside0.mk ((by rw [hg];exact (below_size (by repeat (first|(with_reducible first|exact HB.out|apply below_alloc|apply pw_below_drewN|apply below_drew1)|exact HB.out))) : w.heap.size ≤ gb106));have n3_:=Aside0.mk ((by rw [hg];exact (below_size (by repeat (first|(with_reducible first|exact HB.out|apply below_alloc|apply pw_below_drewN|apply below_drew1)|exact HB.out))) : w.heap.size ≤ gb106));clear HB;have HB:=n0_;have BK106:=n1_;have GW106:=n2_;have GE106:=n3_;clear n0_ n1_ n2_ n3_;clear hb hbox hg;have hcz16_0 : w15.cell? ⟨gb106,0,none⟩ = some (.int .i64 0):=(blk_cell BK106.out 0).trans rfl;have hcz16_1 : w15.cell? ⟨gb106,1,none⟩ = some (.int .i64 0):=(blk_cell BK106.out 1).trans rfl;have hcz16_2 : w15.cell? ⟨gb106,2,none⟩ = some (.int .i64 0):=(blk_cell BK106.out 2).trans rfl;have hcz16_3 : w15.cell? ⟨gb106,3,none⟩ = some (.int .i64 0):=(blk_cell BK106.out 3).trans rfl;have hcz16_4 : w15.cell? ⟨gb106,4,none⟩ = some (.int .i64 0):=(blk_cell BK106.out 4).trans rfl;have hfz16_0:=blk_frozen BK106.out 0;have hfz16_1:=blk_frozen BK106.out 1;have hfz16_2:=blk_frozen BK106.out 2;have hfz16_3:=blk_frozen BK106.out 3;have hfz16_4:=blk_frozen BK106.out 4)|((with_reducible refine gate_callee (f:=40) rfl ?_);refine goesL_ (some 25) rfl rfl Try.func40 (by kernel_rfl) rfl #[.int .i64 a0,.agg #[.int .i64 ((rd_T26 l1 x19_2).f0),.int .i64 ((rd_T26 l1 x19_2).f1.f0),.int .i64 ((rd_T26 l1 x19_2).f1.f1),.int .i64 ((rd_T26 l1 x19_2).f2.f0),.int .i64 ((rd_T26 l1 x19_2).f2.f1)]] rfl (by (try simp only [List.map_toArray,List.map_cons,List.map_nil]);first|done|rfl|(simp only [List.length_drop,List.length_take];rfl)) ?_;(with_reducible refine (difference_one.calls k2 a0 ((rd_T26 l1 x19_2).f0) ((rd_T26 l1 x19_2).f1.f0) ((rd_T26 l1 x19_2).f1.f1) ((rd_T26 l1 x19_2).f2.f0) ((rd_T26 l1 x19_2).f2.f1) t107 _ A10.out).mono ?_);rintro e w17 ⟨rfl,hb⟩;refine ⟨_,rfl,?_⟩;have n0_:=Aside0.mk (blk_below (g:=gb106) (o:=.cells #[.int .i64 ((rd_T26 l1 x19_2).f0),.int .i64 ((rd_T26 l1 x19_2).f1.f0),.int .i64 ((rd_T26 l1 x19_2).f1.f1),.int .i64 ((rd_T26 l1 x19_2).f2.f0),.int .i64 ((rd_T26 l1 x19_2).f2.f1)] 26 (0,0)) (by (with_reducible repeat (first|refine blk_drewN ?_ _|refine blk_drew ?_|refine blk_alloc ?_ _));refine blk_put (cs:=#[.int .i64 ((rd_T26 l1 x19_2).f0),.int .i64 ((rd_T26 l1 x19_2).f1.f0),.int .i64 ((rd_T26 l1 x19_2).f1.f1),.int .i64 ((rd_T26 l1 x19_2).f2.f0),.int .i64 0]) ?_ 4 _ rfl;(with_reducible repeat (first|refine blk_drewN ?_ _|refine blk_drew ?_|refine blk_alloc ?_ _));refine blk_put (cs:=#[.int .i64 ((rd_T26 l1 x19_2).f0),.int .i64 ((rd_T26 l1 x19_2).f1.f0),.int .i64 ((rd_T26 l1 x19_2).f1.f1),.int .i64 0,.int .i64 0]) ?_ 3 _ rfl;(with_reducible repeat (first|refine blk_drewN ?_ _|refine blk_drew ?_|refine blk_alloc ?_ _));refine blk_put (cs:=#[.int .i64 ((rd_T26 l1 x19_2).f0),.int .i64 ((rd_T26 l1 x19_2).f1.f0),.int .i64 0,.int .i64 0,.int .i64 0]) ?_ 2 _ rfl;(with_reducible repeat (first|refine blk_drewN ?_ _|refine blk_drew ?_|refine blk_alloc ?_ _));refine blk_put (cs:=#[.int .i64 ((rd_T26 l1 x19_2).f0),.int .i64 0,.int .i64 0,.int .i64 0,.int .i64 0]) ?_ 1 _ rfl;(with_reducible repeat (first|refine blk_drewN ?_ _|refine blk_drew ?_|refine blk_alloc ?_ _));refine blk_put (cs:=#[.int .i64 0,.int .i64 0,.int .i64 0,.int .i64 0,.int .i64 0]) ?_ 0 _ rfl;(with_reducible repeat (first|refine blk_drewN ?_ _|refine blk_drew ?_|refine blk_alloc ?_ _));exact BK106.out) hb);have n1_:=Aside0.mk (below_step (by repeat (first|(with_reducible first|exact HB.out|apply below_alloc|apply pw_below_drewN|apply below_drew1|refine below_set ?_ GE106.out)|exact HB.out)) hb);clear BK106;clear HB;have BK106:=n0_;have HB:=n1_;clear n0_ n1_;(try clear hb);(try clear hb2);(try clear hk);(try clear hi)))
           go_ret
           exact ⟨by first|rfl|(simp [errW_none,errW_some] <;> rfl)|(simp [*,errW_none,errW_some] <;> rfl),by repeat (first|(with_reducible first|exact HB.out|apply below_alloc|apply pw_below_drewN|apply below_drew1|refine below_set ?_ GE106.out)|exact HB.out)⟩
         ·rw [if_neg c9] at H
          exact absurd H (by simp)
        ·rw [if_neg c8] at H
         exact absurd H (by simp)
       ·rw [if_neg c7] at H
        have c7b0 : decide (x19_2 < (l1.length : Int)) = false:=decide_eq_false c7
        clear c7
        obtain rfl:=Option.some.inj H
        go_wp2
        go_ret
        exact ⟨by first|rfl|(simp [errW_none,errW_some] <;> rfl)|(simp [*,errW_none,errW_some] <;> rfl),by repeat (first|(with_reducible first|exact HB.out|apply below_alloc|apply pw_below_drewN|apply below_drew1)|exact HB.out)⟩

/-! ### difference_arcs: function 41 -/
def difference_arcs.l0 : Nat → List (S71) → List (S26) → Int → Int → Option ((List (S71)))
 | 0,_,_,_,_ => none
 | k + 1,x3,x7,x8,x9 => if x9 < x8 then (if 0 ≤ x9 then (if x9 < (x7.length : Int) then (if x3.length < 3518437208883 then ((some (x3 ++ [(⟨(⟨x9,1⟩ : S55),wrap64 (((rd_T26 x7 x9).f1.f0) + 1),wrap64 (((rd_T26 x7 x9).f2.f0) + 1),wrap64 (((rd_T26 x7 x9).f2.f1) - ((rd_T26 x7 x9).f1.f1))⟩ : S71)] : List (S71))).bind fun y111 => (if ((rd_T26 x7 x9).f0) = 2 then (if y111.length < 3518437208883 then (difference_arcs.l0 k (y111 ++ [(⟨(⟨x9,(-1)⟩ : S55),wrap64 (((rd_T26 x7 x9).f2.f0) + 1),wrap64 (((rd_T26 x7 x9).f1.f0) + 1),wrap64 (-(wrap64 (((rd_T26 x7 x9).f2.f1) - ((rd_T26 x7 x9).f1.f1))))⟩ : S71)]) x7 x8 (wrap64 (x9 + 1))) else (none)) else (difference_arcs.l0 k y111 x7 x8 (wrap64 (x9 + 1))))) else (none)) else (none)) else (none)) else (some x3)
def difference_arcs.f (k : Nat) (l0 : List (S26)) : Option ((List (S71))):=difference_arcs.l0 k ([] : List (S71)) l0 (l0.length : Int) 0
theorem difference_arcs.mono_l : ∀ k,(∀ y0 y1 y2 y3,LeO (difference_arcs.l0 k y0 y1 y2 y3) (difference_arcs.l0 (k + 1) y0 y1 y2 y3))
 | 0 => fun _ _ _ _ r h => by simp [difference_arcs.l0] at h
 | k + 1 => by
  have ih0:=difference_arcs.mono_l k
  ·intro y0 y1 y2 y3
   unfold difference_arcs.l0
   repeat' first
   | (with_reducible exact ih0 _ _ _ _)
   | (with_reducible exact LeO.refl _)
   | (with_reducible exact LeO.none _)
   | (with_reducible refine LeO.ite ?_ ?_)
   | (with_reducible refine LeO.bind ?_ (fun _ => ?_))
   | exact ih0 _ _ _ _
   | exact LeO.none _
   | refine LeO.ite ?_ ?_
   | refine LeO.bind ?_ (fun _ => ?_)
theorem difference_arcs.mono : ∀ a0 k,LeO (difference_arcs.f k a0) (difference_arcs.f (k + 1) a0):=by
 intro a0 k
 have ih0:=difference_arcs.mono_l k
 unfold difference_arcs.f
 repeat' first
   | (with_reducible exact ih0 _ _ _ _)
   | (with_reducible exact LeO.refl _)
   | (with_reducible exact LeO.none _)
   | (with_reducible refine LeO.ite ?_ ?_)
   | (with_reducible refine LeO.bind ?_ (fun _ => ?_))
   | exact ih0 _ _ _ _
   | exact LeO.none _
   | refine LeO.ite ?_ ?_
   | refine LeO.bind ?_ (fun _ => ?_)
set_option maxHeartbeats 8000000 in
set_option maxRecDepth 100000 in
theorem difference_arcs.calls (k : Nat) (A0 : Option Addr) (c0 : Nat) (l0 : List (S26)) (r : List (S71)) (w : World) (hr0 : Kd.C k26 w A0 l0.length l0) (hc0 : l0.length ≤ c0) (h : difference_arcs.f k l0 = some r) :
  Calls Try.prog 41 #[.slice A0 l0.length c0] w fun e w'=>∃ v0_ : Value,e = .returned (v0_) ∧ Kd.R k71 71 w' w.heap.size (fun _=>True) v0_ r ∧ Below w.heap.size w w':=by
 have hu26:=Try.underlying26
 have hu55:=Try.underlying55
 have hu71:=Try.underlying71
 have HR0:=Aside0.mk hr0
 have HC0:=Aside0.mk hc0
 clear hr0 hc0
 have HB:=Aside0.mk (Below.refl w.heap.size w)
 have H : (difference_arcs.l0 k ([] : List (S71)) l0 (l0.length : Int) 0) = some r:=h
 clear h
 have H':=Aside0.mk H
 clear H
 go_enter Try.func41,Try.ntmps41
 go_wp2
 go_loopg [3,9] k (fun kq v3 v9 w'=>∃ (x3_1 : List (S71)) (x9_1 : Int),v9 = .int .i64 x9_1 ∧ Aside0 (difference_arcs.l0 kq x3_1 l0 (l0.length : Int) x9_1 = some r) ∧ Aside0 (kq ≤ k) ∧ Aside0 (Kd.R k71 71 w' w.heap.size (fun _=>True) v3 x3_1) ∧ Aside0 (Below w.heap.size w w'))
 case atStart=>exact ⟨(([] : List (S71))),(0),(by first|rfl|(simp;done)|(simp [*];done)),H',⟨Nat.le_refl _⟩,⟨by first|exact Kd.R_nil _ _ _ _ _|exact Kd.N_nil _ _ _ _ _|exact Kd.V_nil _ _ _ _ _|exact Kd.Q_nil _ _ _ _ _|exact Kd.S_nil _ _ _ _ _⟩,⟨by repeat (first|(with_reducible first|exact HB.out|apply below_alloc|apply pw_below_drewN|apply below_drew1)|exact HB.out)⟩⟩
 case round =>
  clear H'
  obtain ⟨x3_1,x9_1,rfl,HA,HK1,HO_3,HB⟩:=hrel
  cases gk with
  | zero => exact absurd HA.out (by simp [difference_arcs.l0])
  | succ k1 =>
   have H:=HA.out
   clear HA
   simp only [difference_arcs.l0] at H
   by_cases c2 : x9_1 < (l0.length : Int)
   ·rw [if_pos c2] at H
    have c2b0 : decide (x9_1 < (l0.length : Int)) = true:=decide_eq_true c2
    clear c2
    by_cases c3 : 0 ≤ x9_1
    ·rw [if_pos c3] at H
     have c3b0 : decide (0 ≤ x9_1) = true:=decide_eq_true c3
     clear c3
     by_cases c4 : x9_1 < (l0.length : Int)
     ·rw [if_pos c4] at H
      have c4b0 : decide (x9_1 < (l0.length : Int)) = true:=decide_eq_true c4
      clear c4
      by_cases c5 : x3_1.length < 3518437208883
      ·rw [if_pos c5] at H
       have LMc5:=Aside0.mk c5
       clear c5
       obtain ⟨y111,hy111⟩ : ∃ y_ : List (S71),y_ = (x3_1 ++ [(⟨(⟨x9_1,1⟩ : S55),wrap64 (((rd_T26 l0 x9_1).f1.f0) + 1),wrap64 (((rd_T26 l0 x9_1).f2.f0) + 1),wrap64 (((rd_T26 l0 x9_1).f2.f1) - ((rd_T26 l0 x9_1).f1.f1))⟩ : S71)]):=⟨_,rfl⟩
       replace H : (if ((rd_T26 l0 x9_1).f0) = 2 then (if y111.length < 3518437208883 then (difference_arcs.l0 k1 (y111 ++ [(⟨(⟨x9_1,(-1)⟩ : S55),wrap64 (((rd_T26 l0 x9_1).f2.f0) + 1),wrap64 (((rd_T26 l0 x9_1).f1.f0) + 1),wrap64 (-(wrap64 (((rd_T26 l0 x9_1).f2.f1) - ((rd_T26 l0 x9_1).f1.f1))))⟩ : S71)]) l0 (l0.length : Int) (wrap64 (x9_1 + 1))) else (none)) else (difference_arcs.l0 k1 y111 l0 (l0.length : Int) (wrap64 (x9_1 + 1)))) = some r:=by first|(rw [hy111];with_reducible exact H)|(have H2_:=(Option.bind_some _ _).symm.trans H;rw [hy111];with_reducible exact H2_)|(have H2_:=(Option.bind_some _ _).symm.trans H;with_reducible exact H2_)|with_reducible exact H|(rw [hy111];exact H)|exact H
       have Ny111:=Aside0.mk hy111
       clear hy111
       by_cases c6 : ((rd_T26 l0 x9_1).f0) = 2
       ·rw [if_pos c6] at H
        have c6b0 : (((rd_T26 l0 x9_1).f0) == 2) = true:=beq_iff_eq.mpr c6
        have c6b1 : (((rd_T26 l0 x9_1).f0) != 2) = false:=bne_eq_false_iff_eq.mpr c6
        clear c6
        by_cases c7 : y111.length < 3518437208883
        ·rw [if_pos c7] at H
         have LMc7:=Aside0.mk c7
         clear c7
         obtain ⟨y114,hy114⟩ : ∃ y_ : List (S71),y_ = (y111 ++ [(⟨(⟨x9_1,(-1)⟩ : S55),wrap64 (((rd_T26 l0 x9_1).f2.f0) + 1),wrap64 (((rd_T26 l0 x9_1).f1.f0) + 1),wrap64 (-(wrap64 (((rd_T26 l0 x9_1).f2.f1) - ((rd_T26 l0 x9_1).f1.f1))))⟩ : S71)]):=⟨_,rfl⟩
         replace H : (difference_arcs.l0 k1 y114 l0 (l0.length : Int) (wrap64 (x9_1 + 1))) = some r:=by first|(rw [hy114];with_reducible exact H)|(have H2_:=(Option.bind_some _ _).symm.trans H;rw [hy114];with_reducible exact H2_)|(have H2_:=(Option.bind_some _ _).symm.trans H;with_reducible exact H2_)|with_reducible exact H|(rw [hy114];exact H)|exact H
         have Ny114:=Aside0.mk hy114
         clear hy114
         have H':=Aside0.mk H
         clear H
         have p108 : 0 ≤ (x9_1 : Int):=of_decide_eq_true (by first|(with_reducible assumption)|assumption)
         have q108 : x9_1 < (l0.length : Int):=of_decide_eq_true (by first|(with_reducible assumption)|assumption)
         obtain ⟨ad108,e108,hx108_0,hx108_1,hx108_2,hx108_3,hx108_4⟩:=at_T26 HR0.out x9_1 p108 q108
         cases e108
         replace hx108_0:=(HB.out.cell (World.block_lt_of_cell? w _ hx108_0)).trans hx108_0
         replace hx108_1:=(HB.out.cell (World.block_lt_of_cell? w _ hx108_1)).trans hx108_1
         replace hx108_2:=(HB.out.cell (World.block_lt_of_cell? w _ hx108_2)).trans hx108_2
         replace hx108_3:=(HB.out.cell (World.block_lt_of_cell? w _ hx108_3)).trans hx108_3
         replace hx108_4:=(HB.out.cell (World.block_lt_of_cell? w _ hx108_4)).trans hx108_4
         replace p108:=eq_true p108
         replace q108:=eq_true q108
         go_wp2_with (first|((with_reducible refine gate_dst (N:=5) rfl ?_);refine box_event ?hg (N:=5) ?hd (cs:=#[.int .i64 0,.int .i64 0,.int .i64 0,.int .i64 0,.int .i64 0]) (t:=26) ?hr ?_;(case hd=>rfl);(case hg=>rfl);(case hr=>first|(go_simp;done)|(go_simp;rfl));intro gb109 hg w8 hbox hb;have n0_:=Aside0.mk (Kd.R_below (by (with_reducible repeat (first|apply Kd.R_alloc|apply Kd.R_drewN|apply Kd.R_drew));exact HO_3.out) hb);have n1_:=Aside0.mk (below_step (by repeat (first|(with_reducible first|exact HB.out|apply below_alloc|apply pw_below_drewN|apply below_drew1)|exact HB.out)) hb);have n2_:=Aside0.mk (hbox);have n3_:=Aside0.mk ((by rw [hg];exact (below_size (by repeat (first|(with_reducible first|exact HB.out|apply below_alloc|apply pw_below_drewN|apply below_drew1)|exact HB.out))) : w.heap.size ≤ gb109));have n4_:=Aside0.mk ((by rw [hg];exact (below_size (by repeat (first|(with_reducible first|exact HB.out|apply below_alloc|apply pw_below_drewN|apply below_drew1)|exact HB.out))) : w.heap.size ≤ gb109));clear HO_3;clear HB;have HO_3:=n0_;have HB:=n1_;have BK109:=n2_;have GW109:=n3_;have GE109:=n4_;clear n0_ n1_ n2_ n3_ n4_;clear hb hbox hg;have hcz9_0 : w8.cell? ⟨gb109,0,none⟩ = some (.int .i64 0):=(blk_cell BK109.out 0).trans rfl;have hcz9_1 : w8.cell? ⟨gb109,1,none⟩ = some (.int .i64 0):=(blk_cell BK109.out 1).trans rfl;have hcz9_2 : w8.cell? ⟨gb109,2,none⟩ = some (.int .i64 0):=(blk_cell BK109.out 2).trans rfl;have hcz9_3 : w8.cell? ⟨gb109,3,none⟩ = some (.int .i64 0):=(blk_cell BK109.out 3).trans rfl;have hcz9_4 : w8.cell? ⟨gb109,4,none⟩ = some (.int .i64 0):=(blk_cell BK109.out 4).trans rfl;have hfz9_0:=blk_frozen BK109.out 0;have hfz9_1:=blk_frozen BK109.out 1;have hfz9_2:=blk_frozen BK109.out 2;have hfz9_3:=blk_frozen BK109.out 3;have hfz9_4:=blk_frozen BK109.out 4)|((with_reducible refine gate_dst (N:=6) rfl ?_);refine box_event ?hg (N:=6) ?hd (cs:=#[.int .i64 0,.int .i64 0,.int .i64 0,.int .i64 0,.int .i64 0]) (t:=71) ?hr ?_;(case hd=>rfl);(case hg=>rfl);(case hr=>first|(go_simp;done)|(go_simp;rfl));intro gb110 hg w10 hbox hb;have n0_:=Aside0.mk (Kd.R_below (Kd.R_elderB (by (with_reducible repeat (first|apply Kd.R_alloc|apply Kd.R_drewN|apply Kd.R_drew));exact (Kd.R_mono (Kd.R_far (p:=⟨gb109,4,none⟩) (Kd.R_far (p:=⟨gb109,3,none⟩) (Kd.R_far (p:=⟨gb109,2,none⟩) (Kd.R_far (p:=⟨gb109,1,none⟩) (Kd.R_far (p:=⟨gb109,0,none⟩) (Kd.R_types HO_3.out BK109.out (by decide)) (fun _ hk=>hk.2) (.int .i64 ((rd_T26 l0 x9_1).f0))) (fun _ hk=>hk.2) (.int .i64 ((rd_T26 l0 x9_1).f1.f0))) (fun _ hk=>hk.2) (.int .i64 ((rd_T26 l0 x9_1).f1.f1))) (fun _ hk=>hk.2) (.int .i64 ((rd_T26 l0 x9_1).f2.f0))) (fun _ hk=>hk.2) (.int .i64 ((rd_T26 l0 x9_1).f2.f1))) (fun _ h_=>h_.1))) gb110 (Nat.le_of_eq hg.symm)) hb);have n1_:=Aside0.mk (blk_below (g:=gb109) (o:=.cells #[.int .i64 ((rd_T26 l0 x9_1).f0),.int .i64 ((rd_T26 l0 x9_1).f1.f0),.int .i64 ((rd_T26 l0 x9_1).f1.f1),.int .i64 ((rd_T26 l0 x9_1).f2.f0),.int .i64 ((rd_T26 l0 x9_1).f2.f1)] 26 (0,0)) (by (with_reducible repeat (first|refine blk_drewN ?_ _|refine blk_drew ?_|refine blk_alloc ?_ _));refine blk_put (cs:=#[.int .i64 ((rd_T26 l0 x9_1).f0),.int .i64 ((rd_T26 l0 x9_1).f1.f0),.int .i64 ((rd_T26 l0 x9_1).f1.f1),.int .i64 ((rd_T26 l0 x9_1).f2.f0),.int .i64 0]) ?_ 4 _ rfl;(with_reducible repeat (first|refine blk_drewN ?_ _|refine blk_drew ?_|refine blk_alloc ?_ _));refine blk_put (cs:=#[.int .i64 ((rd_T26 l0 x9_1).f0),.int .i64 ((rd_T26 l0 x9_1).f1.f0),.int .i64 ((rd_T26 l0 x9_1).f1.f1),.int .i64 0,.int .i64 0]) ?_ 3 _ rfl;(with_reducible repeat (first|refine blk_drewN ?_ _|refine blk_drew ?_|refine blk_alloc ?_ _));refine blk_put (cs:=#[.int .i64 ((rd_T26 l0 x9_1).f0),.int .i64 ((rd_T26 l0 x9_1).f1.f0),.int .i64 0,.int .i64 0,.int .i64 0]) ?_ 2 _ rfl;(with_reducible repeat (first|refine blk_drewN ?_ _|refine blk_drew ?_|refine blk_alloc ?_ _));refine blk_put (cs:=#[.int .i64 ((rd_T26 l0 x9_1).f0),.int .i64 0,.int .i64 0,.int .i64 0,.int .i64 0]) ?_ 1 _ rfl;(with_reducible repeat (first|refine blk_drewN ?_ _|refine blk_drew ?_|refine blk_alloc ?_ _));refine blk_put (cs:=#[.int .i64 0,.int .i64 0,.int .i64 0,.int .i64 0,.int .i64 0]) ?_ 0 _ rfl;(with_reducible repeat (first|refine blk_drewN ?_ _|refine blk_drew ?_|refine blk_alloc ?_ _));exact BK109.out) hb);have n2_:=Aside0.mk (below_step (by repeat (first|(with_reducible first|exact HB.out|apply below_alloc|apply pw_below_drewN|apply below_drew1|refine below_set ?_ GE109.out)|exact HB.out)) hb);have n3_:=Aside0.mk (hbox);have n4_:=Aside0.mk ((by rw [hg];exact (below_size (by repeat (first|(with_reducible first|exact HB.out|apply below_alloc|apply pw_below_drewN|apply below_drew1|refine below_set ?_ GE109.out)|exact HB.out))) : w.heap.size ≤ gb110));have n5_:=Aside0.mk ((by rw [hg];exact (below_size (by repeat (first|(with_reducible first|exact HB.out|apply below_alloc|apply pw_below_drewN|apply below_drew1|refine below_set ?_ GE109.out)|exact HB.out))) : w.heap.size ≤ gb110));have n6_:=Aside0.mk ((by rw [hg];exact Nat.ne_of_lt (blk_lt (g:=gb109) (o:=.cells #[.int .i64 ((rd_T26 l0 x9_1).f0),.int .i64 ((rd_T26 l0 x9_1).f1.f0),.int .i64 ((rd_T26 l0 x9_1).f1.f1),.int .i64 ((rd_T26 l0 x9_1).f2.f0),.int .i64 ((rd_T26 l0 x9_1).f2.f1)] 26 (0,0)) (by (with_reducible repeat (first|refine blk_drewN ?_ _|refine blk_drew ?_|refine blk_alloc ?_ _));refine blk_put (cs:=#[.int .i64 ((rd_T26 l0 x9_1).f0),.int .i64 ((rd_T26 l0 x9_1).f1.f0),.int .i64 ((rd_T26 l0 x9_1).f1.f1),.int .i64 ((rd_T26 l0 x9_1).f2.f0),.int .i64 0]) ?_ 4 _ rfl;(with_reducible repeat (first|refine blk_drewN ?_ _|refine blk_drew ?_|refine blk_alloc ?_ _));refine blk_put (cs:=#[.int .i64 ((rd_T26 l0 x9_1).f0),.int .i64 ((rd_T26 l0 x9_1).f1.f0),.int .i64 ((rd_T26 l0 x9_1).f1.f1),.int .i64 0,.int .i64 0]) ?_ 3 _ rfl;(with_reducible repeat (first|refine blk_drewN ?_ _|refine blk_drew ?_|refine blk_alloc ?_ _));refine blk_put (cs:=#[.int .i64 ((rd_T26 l0 x9_1).f0),.int .i64 ((rd_T26 l0 x9_1).f1.f0),.int .i64 0,.int .i64 0,.int .i64 0]) ?_ 2 _ rfl;(with_reducible repeat (first|refine blk_drewN ?_ _|refine blk_drew ?_|refine blk_alloc ?_ _));refine blk_put (cs:=#[.int .i64 ((rd_T26 l0 x9_1).f0),.int .i64 0,.int .i64 0,.int .i64 0,.int .i64 0]) ?_ 1 _ rfl;(with_reducible repeat (first|refine blk_drewN ?_ _|refine blk_drew ?_|refine blk_alloc ?_ _));refine blk_put (cs:=#[.int .i64 0,.int .i64 0,.int .i64 0,.int .i64 0,.int .i64 0]) ?_ 0 _ rfl;(with_reducible repeat (first|refine blk_drewN ?_ _|refine blk_drew ?_|refine blk_alloc ?_ _));exact BK109.out)) : gb109 ≠ gb110));have n7_:=Aside0.mk ((by rw [hg];exact Nat.ne_of_gt (blk_lt (g:=gb109) (o:=.cells #[.int .i64 ((rd_T26 l0 x9_1).f0),.int .i64 ((rd_T26 l0 x9_1).f1.f0),.int .i64 ((rd_T26 l0 x9_1).f1.f1),.int .i64 ((rd_T26 l0 x9_1).f2.f0),.int .i64 ((rd_T26 l0 x9_1).f2.f1)] 26 (0,0)) (by (with_reducible repeat (first|refine blk_drewN ?_ _|refine blk_drew ?_|refine blk_alloc ?_ _));refine blk_put (cs:=#[.int .i64 ((rd_T26 l0 x9_1).f0),.int .i64 ((rd_T26 l0 x9_1).f1.f0),.int .i64 ((rd_T26 l0 x9_1).f1.f1),.int .i64 ((rd_T26 l0 x9_1).f2.f0),.int .i64 0]) ?_ 4 _ rfl;(with_reducible repeat (first|refine blk_drewN ?_ _|refine blk_drew ?_|refine blk_alloc ?_ _));refine blk_put (cs:=#[.int .i64 ((rd_T26 l0 x9_1).f0),.int .i64 ((rd_T26 l0 x9_1).f1.f0),.int .i64 ((rd_T26 l0 x9_1).f1.f1),.int .i64 0,.int .i64 0]) ?_ 3 _ rfl;(with_reducible repeat (first|refine blk_drewN ?_ _|refine blk_drew ?_|refine blk_alloc ?_ _));refine blk_put (cs:=#[.int .i64 ((rd_T26 l0 x9_1).f0),.int .i64 ((rd_T26 l0 x9_1).f1.f0),.int .i64 0,.int .i64 0,.int .i64 0]) ?_ 2 _ rfl;(with_reducible repeat (first|refine blk_drewN ?_ _|refine blk_drew ?_|refine blk_alloc ?_ _));refine blk_put (cs:=#[.int .i64 ((rd_T26 l0 x9_1).f0),.int .i64 0,.int .i64 0,.int .i64 0,.int .i64 0]) ?_ 1 _ rfl;(with_reducible repeat (first|refine blk_drewN ?_ _|refine blk_drew ?_|refine blk_alloc ?_ _));refine blk_put (cs:=#[.int .i64 0,.int .i64 0,.int .i64 0,.int .i64 0,.int .i64 0]) ?_ 0 _ rfl;(with_reducible repeat (first|refine blk_drewN ?_ _|refine blk_drew ?_|refine blk_alloc ?_ _));exact BK109.out)) : gb110 ≠ gb109));clear HO_3;clear BK109;clear HB;have HO_3:=n0_;have BK109:=n1_;have HB:=n2_;have BK110:=n3_;have GW110:=n4_;have GE110:=n5_;have NB109_110:=n6_;have NB110_109:=n7_;clear n0_ n1_ n2_ n3_ n4_ n5_ n6_ n7_;clear hb hbox hg;have hnb11:=NB110_109.out;have hnc11:=NB109_110.out;have hcz12_0 : w10.cell? ⟨gb110,0,none⟩ = some (.int .i64 0):=(blk_cell BK110.out 0).trans rfl;have hcz12_1 : w10.cell? ⟨gb110,1,none⟩ = some (.int .i64 0):=(blk_cell BK110.out 1).trans rfl;have hcz12_2 : w10.cell? ⟨gb110,2,none⟩ = some (.int .i64 0):=(blk_cell BK110.out 2).trans rfl;have hcz12_3 : w10.cell? ⟨gb110,3,none⟩ = some (.int .i64 0):=(blk_cell BK110.out 3).trans rfl;have hcz12_4 : w10.cell? ⟨gb110,4,none⟩ = some (.int .i64 0):=(blk_cell BK110.out 4).trans rfl;have hfz12_0:=blk_frozen BK110.out 0;have hfz12_1:=blk_frozen BK110.out 1;have hfz12_2:=blk_frozen BK110.out 2;have hfz12_3:=blk_frozen BK110.out 3;have hfz12_4:=blk_frozen BK110.out 4)|((with_reducible refine gate_builtin (b:=.append) (xs:=#[.tmp 32,.tmp 34]) rfl ?_);at_builtin;refine Kd.R_append k71 (w0:=w) w.heap.size rfl (.tmp 32) (.tmp 34) 68 71 (.agg #[(.int .i64 0),(.int .i64 0),(.int .i64 0),(.int .i64 0),(.int .i64 0)]) 40 rfl Try.underlying68 info71 rfl (by decide) (by omega) u3 x3_1 (⟨(⟨x9_1,1⟩ : S55),wrap64 (((rd_T26 l0 x9_1).f1.f0) + 1),wrap64 (((rd_T26 l0 x9_1).f2.f0) + 1),wrap64 (((rd_T26 l0 x9_1).f2.f1) - ((rd_T26 l0 x9_1).f1.f1))⟩ : S71) [.int .i64 x9_1,.int .i64 1,.int .i64 (wrap64 (((rd_T26 l0 x9_1).f1.f0) + 1)),.int .i64 (wrap64 (((rd_T26 l0 x9_1).f2.f0) + 1)),.int .i64 (wrap64 (((rd_T26 l0 x9_1).f2.f1) - ((rd_T26 l0 x9_1).f1.f1)))] (fun k_=>k_ ≠ gb110) (fun _=>False) rfl (by first|(go_simp;done)|(go_simp;rfl)) ?aP (fun _ hk=>hk.elim) ?aF ?aO ?aB ?aS ?aL ?_;(case aP=>exact k71_mkM _ _ _ (⟨(⟨x9_1,1⟩ : S55),wrap64 (((rd_T26 l0 x9_1).f1.f0) + 1),wrap64 (((rd_T26 l0 x9_1).f2.f0) + 1),wrap64 (((rd_T26 l0 x9_1).f2.f1) - ((rd_T26 l0 x9_1).f1.f1))⟩ : S71));(case aB=>exact (by repeat (first|(with_reducible first|exact HB.out|apply below_alloc|apply pw_below_drewN|apply below_drew1|refine below_set ?_ GE109.out|refine below_set ?_ GE110.out)|exact HB.out)));(case aF=>exact (fun k_ hk=>Kd.freshB (g:=gb110) (o:=.cells #[.int .i64 x9_1,.int .i64 1,.int .i64 (wrap64 (((rd_T26 l0 x9_1).f1.f0) + 1)),.int .i64 (wrap64 (((rd_T26 l0 x9_1).f2.f0) + 1)),.int .i64 (wrap64 (((rd_T26 l0 x9_1).f2.f1) - ((rd_T26 l0 x9_1).f1.f1)))] 71 (0,0)) (by (with_reducible repeat (first|refine blk_drewN ?_ _|refine blk_drew ?_|refine blk_alloc ?_ _));refine blk_put (cs:=#[.int .i64 x9_1,.int .i64 1,.int .i64 (wrap64 (((rd_T26 l0 x9_1).f1.f0) + 1)),.int .i64 (wrap64 (((rd_T26 l0 x9_1).f2.f0) + 1)),.int .i64 0]) ?_ 4 _ rfl;(with_reducible repeat (first|refine blk_drewN ?_ _|refine blk_drew ?_|refine blk_alloc ?_ _));refine blk_put (cs:=#[.int .i64 x9_1,.int .i64 1,.int .i64 (wrap64 (((rd_T26 l0 x9_1).f1.f0) + 1)),.int .i64 0,.int .i64 0]) ?_ 3 _ rfl;(with_reducible repeat (first|refine blk_drewN ?_ _|refine blk_drew ?_|refine blk_alloc ?_ _));refine blk_put (cs:=#[.int .i64 x9_1,.int .i64 1,.int .i64 0,.int .i64 0,.int .i64 0]) ?_ 2 _ rfl;(with_reducible repeat (first|refine blk_drewN ?_ _|refine blk_drew ?_|refine blk_alloc ?_ _));refine blk_put (cs:=#[.int .i64 x9_1,.int .i64 0,.int .i64 0,.int .i64 0,.int .i64 0]) ?_ 1 _ rfl;(with_reducible repeat (first|refine blk_drewN ?_ _|refine blk_drew ?_|refine blk_alloc ?_ _));refine blk_put (cs:=#[.int .i64 0,.int .i64 0,.int .i64 0,.int .i64 0,.int .i64 0]) ?_ 0 _ rfl;(with_reducible repeat (first|refine blk_drewN ?_ _|refine blk_drew ?_|refine blk_alloc ?_ _));exact BK110.out) k_ hk));(case aO=>exact (by (with_reducible repeat (first|apply Kd.R_alloc|apply Kd.R_drewN|apply Kd.R_drew));exact Kd.R_mono (Kd.R_far (p:=⟨gb110,4,none⟩) (Kd.R_far (p:=⟨gb110,3,none⟩) (Kd.R_far (p:=⟨gb110,2,none⟩) (Kd.R_far (p:=⟨gb110,1,none⟩) (Kd.R_far (p:=⟨gb110,0,none⟩) (Kd.R_mono HO_3.out (fun k_ hk=>(⟨hk,hk.2⟩ : _ ∧ k_ ≠ gb110))) (fun _ hk=>hk.2) (.int .i64 x9_1)) (fun _ hk=>hk.2) (.int .i64 1)) (fun _ hk=>hk.2) (.int .i64 (wrap64 (((rd_T26 l0 x9_1).f1.f0) + 1)))) (fun _ hk=>hk.2) (.int .i64 (wrap64 (((rd_T26 l0 x9_1).f2.f0) + 1)))) (fun _ hk=>hk.2) (.int .i64 (wrap64 (((rd_T26 l0 x9_1).f2.f1) - ((rd_T26 l0 x9_1).f1.f1))))) (fun _ hk=>hk.1.2)));(case aS=>exact (below_size (by repeat (first|(with_reducible first|exact HB.out|apply below_alloc|apply pw_below_drewN|apply below_drew1|refine below_set ?_ GE109.out|refine below_set ?_ GE110.out)|exact HB.out))));(case aL=>have:=LMc5.out;omega);intro v112 w13 ho hb hg hat;rw [← Ny111.out] at ho;have n0_:=Aside0.mk (blk_grown (g:=gb109) (o:=.cells #[.int .i64 ((rd_T26 l0 x9_1).f0),.int .i64 ((rd_T26 l0 x9_1).f1.f0),.int .i64 ((rd_T26 l0 x9_1).f1.f1),.int .i64 ((rd_T26 l0 x9_1).f2.f0),.int .i64 ((rd_T26 l0 x9_1).f2.f1)] 26 (0,0)) (by (with_reducible repeat (first|refine blk_drewN ?_ _|refine blk_drew ?_|refine blk_alloc ?_ _));refine blk_far ?_ NB109_110.out _;(with_reducible repeat (first|refine blk_drewN ?_ _|refine blk_drew ?_|refine blk_alloc ?_ _));refine blk_far ?_ NB109_110.out _;(with_reducible repeat (first|refine blk_drewN ?_ _|refine blk_drew ?_|refine blk_alloc ?_ _));refine blk_far ?_ NB109_110.out _;(with_reducible repeat (first|refine blk_drewN ?_ _|refine blk_drew ?_|refine blk_alloc ?_ _));refine blk_far ?_ NB109_110.out _;(with_reducible repeat (first|refine blk_drewN ?_ _|refine blk_drew ?_|refine blk_alloc ?_ _));refine blk_far ?_ NB109_110.out _;(with_reducible repeat (first|refine blk_drewN ?_ _|refine blk_drew ?_|refine blk_alloc ?_ _));exact BK109.out) hg (Kd.R_ne HO_3.out BK109.out (by decide)));have n1_:=Aside0.mk (blk_grown (g:=gb110) (o:=.cells #[.int .i64 x9_1,.int .i64 1,.int .i64 (wrap64 (((rd_T26 l0 x9_1).f1.f0) + 1)),.int .i64 (wrap64 (((rd_T26 l0 x9_1).f2.f0) + 1)),.int .i64 (wrap64 (((rd_T26 l0 x9_1).f2.f1) - ((rd_T26 l0 x9_1).f1.f1)))] 71 (0,0)) (by (with_reducible repeat (first|refine blk_drewN ?_ _|refine blk_drew ?_|refine blk_alloc ?_ _));refine blk_put (cs:=#[.int .i64 x9_1,.int .i64 1,.int .i64 (wrap64 (((rd_T26 l0 x9_1).f1.f0) + 1)),.int .i64 (wrap64 (((rd_T26 l0 x9_1).f2.f0) + 1)),.int .i64 0]) ?_ 4 _ rfl;(with_reducible repeat (first|refine blk_drewN ?_ _|refine blk_drew ?_|refine blk_alloc ?_ _));refine blk_put (cs:=#[.int .i64 x9_1,.int .i64 1,.int .i64 (wrap64 (((rd_T26 l0 x9_1).f1.f0) + 1)),.int .i64 0,.int .i64 0]) ?_ 3 _ rfl;(with_reducible repeat (first|refine blk_drewN ?_ _|refine blk_drew ?_|refine blk_alloc ?_ _));refine blk_put (cs:=#[.int .i64 x9_1,.int .i64 1,.int .i64 0,.int .i64 0,.int .i64 0]) ?_ 2 _ rfl;(with_reducible repeat (first|refine blk_drewN ?_ _|refine blk_drew ?_|refine blk_alloc ?_ _));refine blk_put (cs:=#[.int .i64 x9_1,.int .i64 0,.int .i64 0,.int .i64 0,.int .i64 0]) ?_ 1 _ rfl;(with_reducible repeat (first|refine blk_drewN ?_ _|refine blk_drew ?_|refine blk_alloc ?_ _));refine blk_put (cs:=#[.int .i64 0,.int .i64 0,.int .i64 0,.int .i64 0,.int .i64 0]) ?_ 0 _ rfl;(with_reducible repeat (first|refine blk_drewN ?_ _|refine blk_drew ?_|refine blk_alloc ?_ _));exact BK110.out) hg (Kd.R_away HO_3.out (fun _ hk=>hk.2)));have n2_:=Aside0.mk (hb);have n3_:=Aside0.mk (ho);clear BK109;clear BK110;clear HB;clear HO_3;have BK109:=n0_;have BK110:=n1_;have HB:=n2_;have HO113:=n3_;clear n0_ n1_ n2_ n3_;clear ho hb hg hat;have hcz14_0 : w13.cell? ⟨gb109,0,none⟩ = some (.int .i64 ((rd_T26 l0 x9_1).f0)):=(blk_cell BK109.out 0).trans rfl;have hcz14_1 : w13.cell? ⟨gb109,1,none⟩ = some (.int .i64 ((rd_T26 l0 x9_1).f1.f0)):=(blk_cell BK109.out 1).trans rfl;have hcz14_2 : w13.cell? ⟨gb109,2,none⟩ = some (.int .i64 ((rd_T26 l0 x9_1).f1.f1)):=(blk_cell BK109.out 2).trans rfl;have hcz14_3 : w13.cell? ⟨gb109,3,none⟩ = some (.int .i64 ((rd_T26 l0 x9_1).f2.f0)):=(blk_cell BK109.out 3).trans rfl;have hcz14_4 : w13.cell? ⟨gb109,4,none⟩ = some (.int .i64 ((rd_T26 l0 x9_1).f2.f1)):=(blk_cell BK109.out 4).trans rfl;have hfz14_0:=blk_frozen BK109.out 0;have hfz14_1:=blk_frozen BK109.out 1;have hfz14_2:=blk_frozen BK109.out 2;have hfz14_3:=blk_frozen BK109.out 3;have hfz14_4:=blk_frozen BK109.out 4;have hcz15_0 : w13.cell? ⟨gb110,0,none⟩ = some (.int .i64 x9_1):=(blk_cell BK110.out 0).trans rfl;have hcz15_1 : w13.cell? ⟨gb110,1,none⟩ = some (.int .i64 1):=(blk_cell BK110.out 1).trans rfl;have hcz15_2 : w13.cell? ⟨gb110,2,none⟩ = some (.int .i64 (wrap64 (((rd_T26 l0 x9_1).f1.f0) + 1))):=(blk_cell BK110.out 2).trans rfl;have hcz15_3 : w13.cell? ⟨gb110,3,none⟩ = some (.int .i64 (wrap64 (((rd_T26 l0 x9_1).f2.f0) + 1))):=(blk_cell BK110.out 3).trans rfl;have hcz15_4 : w13.cell? ⟨gb110,4,none⟩ = some (.int .i64 (wrap64 (((rd_T26 l0 x9_1).f2.f1) - ((rd_T26 l0 x9_1).f1.f1)))):=(blk_cell BK110.out 4).trans rfl;have hfz15_0:=blk_frozen BK110.out 0;have hfz15_1:=blk_frozen BK110.out 1;have hfz15_2:=blk_frozen BK110.out 2;have hfz15_3:=blk_frozen BK110.out 3;have hfz15_4:=blk_frozen BK110.out 4)|((with_reducible refine gate_builtin (b:=.append) (xs:=#[.tmp 39,.tmp 50]) rfl ?_);at_builtin;refine Kd.R_append k71 (w0:=w) w.heap.size rfl (.tmp 39) (.tmp 50) 68 71 (.agg #[(.int .i64 0),(.int .i64 0),(.int .i64 0),(.int .i64 0),(.int .i64 0)]) 40 rfl Try.underlying68 info71 rfl (by decide) (by omega) v112 y111 (⟨(⟨x9_1,(-1)⟩ : S55),wrap64 (((rd_T26 l0 x9_1).f2.f0) + 1),wrap64 (((rd_T26 l0 x9_1).f1.f0) + 1),wrap64 (-(wrap64 (((rd_T26 l0 x9_1).f2.f1) - ((rd_T26 l0 x9_1).f1.f1))))⟩ : S71) [.int .i64 x9_1,.int .i64 (-1),.int .i64 (wrap64 (((rd_T26 l0 x9_1).f2.f0) + 1)),.int .i64 (wrap64 (((rd_T26 l0 x9_1).f1.f0) + 1)),.int .i64 (wrap64 (-(wrap64 (((rd_T26 l0 x9_1).f2.f1) - ((rd_T26 l0 x9_1).f1.f1)))))] (fun k_=>k_ ≠ gb110) (fun _=>False) rfl rfl ?aP (fun _ hk=>hk.elim) ?aF ?aO ?aB ?aS ?aL ?_;(case aP=>exact k71_mkM _ _ _ (⟨(⟨x9_1,(-1)⟩ : S55),wrap64 (((rd_T26 l0 x9_1).f2.f0) + 1),wrap64 (((rd_T26 l0 x9_1).f1.f0) + 1),wrap64 (-(wrap64 (((rd_T26 l0 x9_1).f2.f1) - ((rd_T26 l0 x9_1).f1.f1))))⟩ : S71));(case aB=>exact (by repeat (first|(with_reducible first|exact HB.out|apply below_alloc|apply pw_below_drewN|apply below_drew1|refine below_set ?_ GE109.out|refine below_set ?_ GE110.out)|exact HB.out)));(case aF=>exact (fun k_ hk=>Kd.freshB (g:=gb110) (o:=.cells #[.int .i64 x9_1,.int .i64 1,.int .i64 (wrap64 (((rd_T26 l0 x9_1).f1.f0) + 1)),.int .i64 (wrap64 (((rd_T26 l0 x9_1).f2.f0) + 1)),.int .i64 (wrap64 (((rd_T26 l0 x9_1).f2.f1) - ((rd_T26 l0 x9_1).f1.f1)))] 71 (0,0)) (by (with_reducible repeat (first|refine blk_drewN ?_ _|refine blk_drew ?_|refine blk_alloc ?_ _));exact BK110.out) k_ hk));(case aO=>exact (by (with_reducible repeat (first|apply Kd.R_alloc|apply Kd.R_drewN|apply Kd.R_drew));exact HO113.out));(case aS=>exact (below_size (by repeat (first|(with_reducible first|exact HB.out|apply below_alloc|apply pw_below_drewN|apply below_drew1|refine below_set ?_ GE109.out|refine below_set ?_ GE110.out)|exact HB.out))));(case aL=>have:=LMc7.out;omega);intro v115 w16 ho hb hg hat;rw [← Ny114.out] at ho;have n0_:=Aside0.mk (blk_grown (g:=gb109) (o:=.cells #[.int .i64 ((rd_T26 l0 x9_1).f0),.int .i64 ((rd_T26 l0 x9_1).f1.f0),.int .i64 ((rd_T26 l0 x9_1).f1.f1),.int .i64 ((rd_T26 l0 x9_1).f2.f0),.int .i64 ((rd_T26 l0 x9_1).f2.f1)] 26 (0,0)) (by (with_reducible repeat (first|refine blk_drewN ?_ _|refine blk_drew ?_|refine blk_alloc ?_ _));exact BK109.out) hg (Kd.R_ne HO113.out BK109.out (by decide)));have n1_:=Aside0.mk (blk_grown (g:=gb110) (o:=.cells #[.int .i64 x9_1,.int .i64 1,.int .i64 (wrap64 (((rd_T26 l0 x9_1).f1.f0) + 1)),.int .i64 (wrap64 (((rd_T26 l0 x9_1).f2.f0) + 1)),.int .i64 (wrap64 (((rd_T26 l0 x9_1).f2.f1) - ((rd_T26 l0 x9_1).f1.f1)))] 71 (0,0)) (by (with_reducible repeat (first|refine blk_drewN ?_ _|refine blk_drew ?_|refine blk_alloc ?_ _));exact BK110.out) hg (Kd.R_away HO113.out (fun _ hk=>hk)));have n2_:=Aside0.mk (hb);have n3_:=Aside0.mk (ho);clear BK109;clear BK110;clear HB;clear HO113;have BK109:=n0_;have BK110:=n1_;have HB:=n2_;have HO116:=n3_;clear n0_ n1_ n2_ n3_;clear ho hb hg hat))
         go_roundg k1
         case measure=>have:=HK1.out;omega
         case rel=>exact ⟨(y114),(wrap64 (x9_1 + 1)),(by first|rfl|(simp;done)|(simp [*];done)),H',⟨by have:=HK1.out;omega⟩,⟨by (with_reducible repeat (first|apply Kd.R_alloc|apply Kd.R_drewN|apply Kd.R_drew));exact Kd.R_mono HO116.out (fun _ hk=>trivial)⟩,⟨by repeat (first|(with_reducible first|exact HB.out|apply below_alloc|apply pw_below_drewN|apply below_drew1|refine below_set ?_ GE109.out|refine below_set ?_ GE110.out)|exact HB.out)⟩⟩
        ·rw [if_neg c7] at H
         exact absurd H (by simp)
       ·rw [if_neg c6] at H
        have c6b0 : (((rd_T26 l0 x9_1).f0) == 2) = false:=beq_eq_false_iff_ne.mpr c6
        have c6b1 : (((rd_T26 l0 x9_1).f0) != 2) = true:=bne_iff_ne.mpr c6
        have H':=Aside0.mk H
        clear H
        have p108 : 0 ≤ (x9_1 : Int):=of_decide_eq_true (by first|(with_reducible assumption)|assumption)
        have q108 : x9_1 < (l0.length : Int):=of_decide_eq_true (by first|(with_reducible assumption)|assumption)
        obtain ⟨ad108,e108,hx108_0,hx108_1,hx108_2,hx108_3,hx108_4⟩:=at_T26 HR0.out x9_1 p108 q108
        cases e108
        replace hx108_0:=(HB.out.cell (World.block_lt_of_cell? w _ hx108_0)).trans hx108_0
        replace hx108_1:=(HB.out.cell (World.block_lt_of_cell? w _ hx108_1)).trans hx108_1
        replace hx108_2:=(HB.out.cell (World.block_lt_of_cell? w _ hx108_2)).trans hx108_2
        replace hx108_3:=(HB.out.cell (World.block_lt_of_cell? w _ hx108_3)).trans hx108_3
        replace hx108_4:=(HB.out.cell (World.block_lt_of_cell? w _ hx108_4)).trans hx108_4
        replace p108:=eq_true p108
        replace q108:=eq_true q108
        go_wp2_with (first|((with_reducible refine gate_dst (N:=5) rfl ?_);refine box_event ?hg (N:=5) ?hd (cs:=#[.int .i64 0,.int .i64 0,.int .i64 0,.int .i64 0,.int .i64 0]) (t:=26) ?hr ?_;(case hd=>rfl);(case hg=>rfl);(case hr=>first|(go_simp;done)|(go_simp;rfl));intro gb109 hg w17 hbox hb;have n0_:=Aside0.mk (Kd.R_below (by (with_reducible repeat (first|apply Kd.R_alloc|apply Kd.R_drewN|apply Kd.R_drew));exact HO_3.out) hb);have n1_:=Aside0.mk (below_step (by repeat (first|(with_reducible first|exact HB.out|apply below_alloc|apply pw_below_drewN|apply below_drew1)|exact HB.out)) hb);have n2_:=Aside0.mk (hbox);have n3_:=Aside0.mk ((by rw [hg];exact (below_size (by repeat (first|(with_reducible first|exact HB.out|apply below_alloc|apply pw_below_drewN|apply below_drew1)|exact HB.out))) : w.heap.size ≤ gb109));have n4_:=Aside0.mk ((by rw [hg];exact (below_size (by repeat (first|(with_reducible first|exact HB.out|apply below_alloc|apply pw_below_drewN|apply below_drew1)|exact HB.out))) : w.heap.size ≤ gb109));clear HO_3;clear HB;have HO_3:=n0_;have HB:=n1_;have BK109:=n2_;have GW109:=n3_;have GE109:=n4_;clear n0_ n1_ n2_ n3_ n4_;clear hb hbox hg;have hcz18_0 : w17.cell? ⟨gb109,0,none⟩ = some (.int .i64 0):=(blk_cell BK109.out 0).trans rfl;have hcz18_1 : w17.cell? ⟨gb109,1,none⟩ = some (.int .i64 0):=(blk_cell BK109.out 1).trans rfl;have hcz18_2 : w17.cell? ⟨gb109,2,none⟩ = some (.int .i64 0):=(blk_cell BK109.out 2).trans rfl;have hcz18_3 : w17.cell? ⟨gb109,3,none⟩ = some (.int .i64 0):=(blk_cell BK109.out 3).trans rfl;have hcz18_4 : w17.cell? ⟨gb109,4,none⟩ = some (.int .i64 0):=(blk_cell BK109.out 4).trans rfl;have hfz18_0:=blk_frozen BK109.out 0;have hfz18_1:=blk_frozen BK109.out 1;have hfz18_2:=blk_frozen BK109.out 2;have hfz18_3:=blk_frozen BK109.out 3;have hfz18_4:=blk_frozen BK109.out 4)|((with_reducible refine gate_dst (N:=6) rfl ?_);refine box_event ?hg (N:=6) ?hd (cs:=#[.int .i64 0,.int .i64 0,.int .i64 0,.int .i64 0,.int .i64 0]) (t:=71) ?hr ?_;(case hd=>rfl);(case hg=>rfl);(case hr=>first|(go_simp;done)|(go_simp;rfl));intro gb110 hg w19 hbox hb;have n0_:=Aside0.mk (Kd.R_below (Kd.R_elderB (by (with_reducible repeat (first|apply Kd.R_alloc|apply Kd.R_drewN|apply Kd.R_drew));exact (Kd.R_mono (Kd.R_far (p:=⟨gb109,4,none⟩) (Kd.R_far (p:=⟨gb109,3,none⟩) (Kd.R_far (p:=⟨gb109,2,none⟩) (Kd.R_far (p:=⟨gb109,1,none⟩) (Kd.R_far (p:=⟨gb109,0,none⟩) (Kd.R_types HO_3.out BK109.out (by decide)) (fun _ hk=>hk.2) (.int .i64 ((rd_T26 l0 x9_1).f0))) (fun _ hk=>hk.2) (.int .i64 ((rd_T26 l0 x9_1).f1.f0))) (fun _ hk=>hk.2) (.int .i64 ((rd_T26 l0 x9_1).f1.f1))) (fun _ hk=>hk.2) (.int .i64 ((rd_T26 l0 x9_1).f2.f0))) (fun _ hk=>hk.2) (.int .i64 ((rd_T26 l0 x9_1).f2.f1))) (fun _ h_=>h_.1))) gb110 (Nat.le_of_eq hg.symm)) hb);have n1_:=Aside0.mk (blk_below (g:=gb109) (o:=.cells #[.int .i64 ((rd_T26 l0 x9_1).f0),.int .i64 ((rd_T26 l0 x9_1).f1.f0),.int .i64 ((rd_T26 l0 x9_1).f1.f1),.int .i64 ((rd_T26 l0 x9_1).f2.f0),.int .i64 ((rd_T26 l0 x9_1).f2.f1)] 26 (0,0)) (by (with_reducible repeat (first|refine blk_drewN ?_ _|refine blk_drew ?_|refine blk_alloc ?_ _));refine blk_put (cs:=#[.int .i64 ((rd_T26 l0 x9_1).f0),.int .i64 ((rd_T26 l0 x9_1).f1.f0),.int .i64 ((rd_T26 l0 x9_1).f1.f1),.int .i64 ((rd_T26 l0 x9_1).f2.f0),.int .i64 0]) ?_ 4 _ rfl;(with_reducible repeat (first|refine blk_drewN ?_ _|refine blk_drew ?_|refine blk_alloc ?_ _));refine blk_put (cs:=#[.int .i64 ((rd_T26 l0 x9_1).f0),.int .i64 ((rd_T26 l0 x9_1).f1.f0),.int .i64 ((rd_T26 l0 x9_1).f1.f1),.int .i64 0,.int .i64 0]) ?_ 3 _ rfl;(with_reducible repeat (first|refine blk_drewN ?_ _|refine blk_drew ?_|refine blk_alloc ?_ _));refine blk_put (cs:=#[.int .i64 ((rd_T26 l0 x9_1).f0),.int .i64 ((rd_T26 l0 x9_1).f1.f0),.int .i64 0,.int .i64 0,.int .i64 0]) ?_ 2 _ rfl;(with_reducible repeat (first|refine blk_drewN ?_ _|refine blk_drew ?_|refine blk_alloc ?_ _));refine blk_put (cs:=#[.int .i64 ((rd_T26 l0 x9_1).f0),.int .i64 0,.int .i64 0,.int .i64 0,.int .i64 0]) ?_ 1 _ rfl;(with_reducible repeat (first|refine blk_drewN ?_ _|refine blk_drew ?_|refine blk_alloc ?_ _));refine blk_put (cs:=#[.int .i64 0,.int .i64 0,.int .i64 0,.int .i64 0,.int .i64 0]) ?_ 0 _ rfl;(with_reducible repeat (first|refine blk_drewN ?_ _|refine blk_drew ?_|refine blk_alloc ?_ _));exact BK109.out) hb);have n2_:=Aside0.mk (below_step (by repeat (first|(with_reducible first|exact HB.out|apply below_alloc|apply pw_below_drewN|apply below_drew1|refine below_set ?_ GE109.out)|exact HB.out)) hb);have n3_:=Aside0.mk (hbox);have n4_:=Aside0.mk ((by rw [hg];exact (below_size (by repeat (first|(with_reducible first|exact HB.out|apply below_alloc|apply pw_below_drewN|apply below_drew1|refine below_set ?_ GE109.out)|exact HB.out))) : w.heap.size ≤ gb110));have n5_:=Aside0.mk ((by rw [hg];exact (below_size (by repeat (first|(with_reducible first|exact HB.out|apply below_alloc|apply pw_below_drewN|apply below_drew1|refine below_set ?_ GE109.out)|exact HB.out))) : w.heap.size ≤ gb110));have n6_:=Aside0.mk ((by rw [hg];exact Nat.ne_of_lt (blk_lt (g:=gb109) (o:=.cells #[.int .i64 ((rd_T26 l0 x9_1).f0),.int .i64 ((rd_T26 l0 x9_1).f1.f0),.int .i64 ((rd_T26 l0 x9_1).f1.f1),.int .i64 ((rd_T26 l0 x9_1).f2.f0),.int .i64 ((rd_T26 l0 x9_1).f2.f1)] 26 (0,0)) (by (with_reducible repeat (first|refine blk_drewN ?_ _|refine blk_drew ?_|refine blk_alloc ?_ _));refine blk_put (cs:=#[.int .i64 ((rd_T26 l0 x9_1).f0),.int .i64 ((rd_T26 l0 x9_1).f1.f0),.int .i64 ((rd_T26 l0 x9_1).f1.f1),.int .i64 ((rd_T26 l0 x9_1).f2.f0),.int .i64 0]) ?_ 4 _ rfl;(with_reducible repeat (first|refine blk_drewN ?_ _|refine blk_drew ?_|refine blk_alloc ?_ _));refine blk_put (cs:=#[.int .i64 ((rd_T26 l0 x9_1).f0),.int .i64 ((rd_T26 l0 x9_1).f1.f0),.int .i64 ((rd_T26 l0 x9_1).f1.f1),.int .i64 0,.int .i64 0]) ?_ 3 _ rfl;(with_reducible repeat (first|refine blk_drewN ?_ _|refine blk_drew ?_|refine blk_alloc ?_ _));refine blk_put (cs:=#[.int .i64 ((rd_T26 l0 x9_1).f0),.int .i64 ((rd_T26 l0 x9_1).f1.f0),.int .i64 0,.int .i64 0,.int .i64 0]) ?_ 2 _ rfl;(with_reducible repeat (first|refine blk_drewN ?_ _|refine blk_drew ?_|refine blk_alloc ?_ _));refine blk_put (cs:=#[.int .i64 ((rd_T26 l0 x9_1).f0),.int .i64 0,.int .i64 0,.int .i64 0,.int .i64 0]) ?_ 1 _ rfl;(with_reducible repeat (first|refine blk_drewN ?_ _|refine blk_drew ?_|refine blk_alloc ?_ _));refine blk_put (cs:=#[.int .i64 0,.int .i64 0,.int .i64 0,.int .i64 0,.int .i64 0]) ?_ 0 _ rfl;(with_reducible repeat (first|refine blk_drewN ?_ _|refine blk_drew ?_|refine blk_alloc ?_ _));exact BK109.out)) : gb109 ≠ gb110));have n7_:=Aside0.mk ((by rw [hg];exact Nat.ne_of_gt (blk_lt (g:=gb109) (o:=.cells #[.int .i64 ((rd_T26 l0 x9_1).f0),.int .i64 ((rd_T26 l0 x9_1).f1.f0),.int .i64 ((rd_T26 l0 x9_1).f1.f1),.int .i64 ((rd_T26 l0 x9_1).f2.f0),.int .i64 ((rd_T26 l0 x9_1).f2.f1)] 26 (0,0)) (by (with_reducible repeat (first|refine blk_drewN ?_ _|refine blk_drew ?_|refine blk_alloc ?_ _));refine blk_put (cs:=#[.int .i64 ((rd_T26 l0 x9_1).f0),.int .i64 ((rd_T26 l0 x9_1).f1.f0),.int .i64 ((rd_T26 l0 x9_1).f1.f1),.int .i64 ((rd_T26 l0 x9_1).f2.f0),.int .i64 0]) ?_ 4 _ rfl;(with_reducible repeat (first|refine blk_drewN ?_ _|refine blk_drew ?_|refine blk_alloc ?_ _));refine blk_put (cs:=#[.int .i64 ((rd_T26 l0 x9_1).f0),.int .i64 ((rd_T26 l0 x9_1).f1.f0),.int .i64 ((rd_T26 l0 x9_1).f1.f1),.int .i64 0,.int .i64 0]) ?_ 3 _ rfl;(with_reducible repeat (first|refine blk_drewN ?_ _|refine blk_drew ?_|refine blk_alloc ?_ _));refine blk_put (cs:=#[.int .i64 ((rd_T26 l0 x9_1).f0),.int .i64 ((rd_T26 l0 x9_1).f1.f0),.int .i64 0,.int .i64 0,.int .i64 0]) ?_ 2 _ rfl;(with_reducible repeat (first|refine blk_drewN ?_ _|refine blk_drew ?_|refine blk_alloc ?_ _));refine blk_put (cs:=#[.int .i64 ((rd_T26 l0 x9_1).f0),.int .i64 0,.int .i64 0,.int .i64 0,.int .i64 0]) ?_ 1 _ rfl;(with_reducible repeat (first|refine blk_drewN ?_ _|refine blk_drew ?_|refine blk_alloc ?_ _));refine blk_put (cs:=#[.int .i64 0,.int .i64 0,.int .i64 0,.int .i64 0,.int .i64 0]) ?_ 0 _ rfl;(with_reducible repeat (first|refine blk_drewN ?_ _|refine blk_drew ?_|refine blk_alloc ?_ _));exact BK109.out)) : gb110 ≠ gb109));clear HO_3;clear BK109;clear HB;have HO_3:=n0_;have BK109:=n1_;have HB:=n2_;have BK110:=n3_;have GW110:=n4_;have GE110:=n5_;have NB109_110:=n6_;have NB110_109:=n7_;clear n0_ n1_ n2_ n3_ n4_ n5_ n6_ n7_;clear hb hbox hg;have hnb20:=NB110_109.out;have hnc20:=NB109_110.out;have hcz21_0 : w19.cell? ⟨gb110,0,none⟩ = some (.int .i64 0):=(blk_cell BK110.out 0).trans rfl;have hcz21_1 : w19.cell? ⟨gb110,1,none⟩ = some (.int .i64 0):=(blk_cell BK110.out 1).trans rfl;have hcz21_2 : w19.cell? ⟨gb110,2,none⟩ = some (.int .i64 0):=(blk_cell BK110.out 2).trans rfl;have hcz21_3 : w19.cell? ⟨gb110,3,none⟩ = some (.int .i64 0):=(blk_cell BK110.out 3).trans rfl;have hcz21_4 : w19.cell? ⟨gb110,4,none⟩ = some (.int .i64 0):=(blk_cell BK110.out 4).trans rfl;have hfz21_0:=blk_frozen BK110.out 0;have hfz21_1:=blk_frozen BK110.out 1;have hfz21_2:=blk_frozen BK110.out 2;have hfz21_3:=blk_frozen BK110.out 3;have hfz21_4:=blk_frozen BK110.out 4)|((with_reducible refine gate_builtin (b:=.append) (xs:=#[.tmp 32,.tmp 34]) rfl ?_);at_builtin;refine Kd.R_append k71 (w0:=w) w.heap.size rfl (.tmp 32) (.tmp 34) 68 71 (.agg #[(.int .i64 0),(.int .i64 0),(.int .i64 0),(.int .i64 0),(.int .i64 0)]) 40 rfl Try.underlying68 info71 rfl (by decide) (by omega) u3 x3_1 (⟨(⟨x9_1,1⟩ : S55),wrap64 (((rd_T26 l0 x9_1).f1.f0) + 1),wrap64 (((rd_T26 l0 x9_1).f2.f0) + 1),wrap64 (((rd_T26 l0 x9_1).f2.f1) - ((rd_T26 l0 x9_1).f1.f1))⟩ : S71) [.int .i64 x9_1,.int .i64 1,.int .i64 (wrap64 (((rd_T26 l0 x9_1).f1.f0) + 1)),.int .i64 (wrap64 (((rd_T26 l0 x9_1).f2.f0) + 1)),.int .i64 (wrap64 (((rd_T26 l0 x9_1).f2.f1) - ((rd_T26 l0 x9_1).f1.f1)))] (fun k_=>k_ ≠ gb110) (fun _=>False) rfl (by first|(go_simp;done)|(go_simp;rfl)) ?aP (fun _ hk=>hk.elim) ?aF ?aO ?aB ?aS ?aL ?_;(case aP=>exact k71_mkM _ _ _ (⟨(⟨x9_1,1⟩ : S55),wrap64 (((rd_T26 l0 x9_1).f1.f0) + 1),wrap64 (((rd_T26 l0 x9_1).f2.f0) + 1),wrap64 (((rd_T26 l0 x9_1).f2.f1) - ((rd_T26 l0 x9_1).f1.f1))⟩ : S71));(case aB=>exact (by repeat (first|(with_reducible first|exact HB.out|apply below_alloc|apply pw_below_drewN|apply below_drew1|refine below_set ?_ GE109.out|refine below_set ?_ GE110.out)|exact HB.out)));(case aF=>exact (fun k_ hk=>Kd.freshB (g:=gb110) (o:=.cells #[.int .i64 x9_1,.int .i64 1,.int .i64 (wrap64 (((rd_T26 l0 x9_1).f1.f0) + 1)),.int .i64 (wrap64 (((rd_T26 l0 x9_1).f2.f0) + 1)),.int .i64 (wrap64 (((rd_T26 l0 x9_1).f2.f1) - ((rd_T26 l0 x9_1).f1.f1)))] 71 (0,0)) (by (with_reducible repeat (first|refine blk_drewN ?_ _|refine blk_drew ?_|refine blk_alloc ?_ _));refine blk_put (cs:=#[.int .i64 x9_1,.int .i64 1,.int .i64 (wrap64 (((rd_T26 l0 x9_1).f1.f0) + 1)),.int .i64 (wrap64 (((rd_T26 l0 x9_1).f2.f0) + 1)),.int .i64 0]) ?_ 4 _ rfl;(with_reducible repeat (first|refine blk_drewN ?_ _|refine blk_drew ?_|refine blk_alloc ?_ _));refine blk_put (cs:=#[.int .i64 x9_1,.int .i64 1,.int .i64 (wrap64 (((rd_T26 l0 x9_1).f1.f0) + 1)),.int .i64 0,.int .i64 0]) ?_ 3 _ rfl;(with_reducible repeat (first|refine blk_drewN ?_ _|refine blk_drew ?_|refine blk_alloc ?_ _));refine blk_put (cs:=#[.int .i64 x9_1,.int .i64 1,.int .i64 0,.int .i64 0,.int .i64 0]) ?_ 2 _ rfl;(with_reducible repeat (first|refine blk_drewN ?_ _|refine blk_drew ?_|refine blk_alloc ?_ _));refine blk_put (cs:=#[.int .i64 x9_1,.int .i64 0,.int .i64 0,.int .i64 0,.int .i64 0]) ?_ 1 _ rfl;(with_reducible repeat (first|refine blk_drewN ?_ _|refine blk_drew ?_|refine blk_alloc ?_ _));refine blk_put (cs:=#[.int .i64 0,.int .i64 0,.int .i64 0,.int .i64 0,.int .i64 0]) ?_ 0 _ rfl;(with_reducible repeat (first|refine blk_drewN ?_ _|refine blk_drew ?_|refine blk_alloc ?_ _));exact BK110.out) k_ hk));(case aO=>exact (by (with_reducible repeat (first|apply Kd.R_alloc|apply Kd.R_drewN|apply Kd.R_drew));exact Kd.R_mono (Kd.R_far (p:=⟨gb110,4,none⟩) (Kd.R_far (p:=⟨gb110,3,none⟩) (Kd.R_far (p:=⟨gb110,2,none⟩) (Kd.R_far (p:=⟨gb110,1,none⟩) (Kd.R_far (p:=⟨gb110,0,none⟩) (Kd.R_mono HO_3.out (fun k_ hk=>(⟨hk,hk.2⟩ : _ ∧ k_ ≠ gb110))) (fun _ hk=>hk.2) (.int .i64 x9_1)) (fun _ hk=>hk.2) (.int .i64 1)) (fun _ hk=>hk.2) (.int .i64 (wrap64 (((rd_T26 l0 x9_1).f1.f0) + 1)))) (fun _ hk=>hk.2) (.int .i64 (wrap64 (((rd_T26 l0 x9_1).f2.f0) + 1)))) (fun _ hk=>hk.2) (.int .i64 (wrap64 (((rd_T26 l0 x9_1).f2.f1) - ((rd_T26 l0 x9_1).f1.f1))))) (fun _ hk=>hk.1.2)));(case aS=>exact (below_size (by repeat (first|(with_reducible first|exact HB.out|apply below_alloc|apply pw_below_drewN|apply below_drew1|refine below_set ?_ GE109.out|refine below_set ?_ GE110.out)|exact HB.out))));(case aL=>have:=LMc5.out;omega);intro v112 w22 ho hb hg hat;rw [← Ny111.out] at ho;have n0_:=Aside0.mk (blk_grown (g:=gb109) (o:=.cells #[.int .i64 ((rd_T26 l0 x9_1).f0),.int .i64 ((rd_T26 l0 x9_1).f1.f0),.int .i64 ((rd_T26 l0 x9_1).f1.f1),.int .i64 ((rd_T26 l0 x9_1).f2.f0),.int .i64 ((rd_T26 l0 x9_1).f2.f1)] 26 (0,0)) (by (with_reducible repeat (first|refine blk_drewN ?_ _|refine blk_drew ?_|refine blk_alloc ?_ _));refine blk_far ?_ NB109_110.out _;(with_reducible repeat (first|refine blk_drewN ?_ _|refine blk_drew ?_|refine blk_alloc ?_ _));refine blk_far ?_ NB109_110.out _;(with_reducible repeat (first|refine blk_drewN ?_ _|refine blk_drew ?_|refine blk_alloc ?_ _));refine blk_far ?_ NB109_110.out _;(with_reducible repeat (first|refine blk_drewN ?_ _|refine blk_drew ?_|refine blk_alloc ?_ _));refine blk_far ?_ NB109_110.out _;(with_reducible repeat (first|refine blk_drewN ?_ _|refine blk_drew ?_|refine blk_alloc ?_ _));refine blk_far ?_ NB109_110.out _;(with_reducible repeat (first|refine blk_drewN ?_ _|refine blk_drew ?_|refine blk_alloc ?_ _));exact BK109.out) hg (Kd.R_ne HO_3.out BK109.out (by decide)));have n1_:=Aside0.mk (blk_grown (g:=gb110) (o:=.cells #[.int .i64 x9_1,.int .i64 1,.int .i64 (wrap64 (((rd_T26 l0 x9_1).f1.f0) + 1)),.int .i64 (wrap64 (((rd_T26 l0 x9_1).f2.f0) + 1)),.int .i64 (wrap64 (((rd_T26 l0 x9_1).f2.f1) - ((rd_T26 l0 x9_1).f1.f1)))] 71 (0,0)) (by (with_reducible repeat (first|refine blk_drewN ?_ _|refine blk_drew ?_|refine blk_alloc ?_ _));refine blk_put (cs:=#[.int .i64 x9_1,.int .i64 1,.int .i64 (wrap64 (((rd_T26 l0 x9_1).f1.f0) + 1)),.int .i64 (wrap64 (((rd_T26 l0 x9_1).f2.f0) + 1)),.int .i64 0]) ?_ 4 _ rfl;(with_reducible repeat (first|refine blk_drewN ?_ _|refine blk_drew ?_|refine blk_alloc ?_ _));refine blk_put (cs:=#[.int .i64 x9_1,.int .i64 1,.int .i64 (wrap64 (((rd_T26 l0 x9_1).f1.f0) + 1)),.int .i64 0,.int .i64 0]) ?_ 3 _ rfl;(with_reducible repeat (first|refine blk_drewN ?_ _|refine blk_drew ?_|refine blk_alloc ?_ _));refine blk_put (cs:=#[.int .i64 x9_1,.int .i64 1,.int .i64 0,.int .i64 0,.int .i64 0]) ?_ 2 _ rfl;(with_reducible repeat (first|refine blk_drewN ?_ _|refine blk_drew ?_|refine blk_alloc ?_ _));refine blk_put (cs:=#[.int .i64 x9_1,.int .i64 0,.int .i64 0,.int .i64 0,.int .i64 0]) ?_ 1 _ rfl;(with_reducible repeat (first|refine blk_drewN ?_ _|refine blk_drew ?_|refine blk_alloc ?_ _));refine blk_put (cs:=#[.int .i64 0,.int .i64 0,.int .i64 0,.int .i64 0,.int .i64 0]) ?_ 0 _ rfl;(with_reducible repeat (first|refine blk_drewN ?_ _|refine blk_drew ?_|refine blk_alloc ?_ _));exact BK110.out) hg (Kd.R_away HO_3.out (fun _ hk=>hk.2)));have n2_:=Aside0.mk (hb);have n3_:=Aside0.mk (ho);clear BK109;clear BK110;clear HB;clear HO_3;have BK109:=n0_;have BK110:=n1_;have HB:=n2_;have HO113:=n3_;clear n0_ n1_ n2_ n3_;clear ho hb hg hat;have hcz23_0 : w22.cell? ⟨gb109,0,none⟩ = some (.int .i64 ((rd_T26 l0 x9_1).f0)):=(blk_cell BK109.out 0).trans rfl;have hcz23_1 : w22.cell? ⟨gb109,1,none⟩ = some (.int .i64 ((rd_T26 l0 x9_1).f1.f0)):=(blk_cell BK109.out 1).trans rfl;have hcz23_2 : w22.cell? ⟨gb109,2,none⟩ = some (.int .i64 ((rd_T26 l0 x9_1).f1.f1)):=(blk_cell BK109.out 2).trans rfl;have hcz23_3 : w22.cell? ⟨gb109,3,none⟩ = some (.int .i64 ((rd_T26 l0 x9_1).f2.f0)):=(blk_cell BK109.out 3).trans rfl;have hcz23_4 : w22.cell? ⟨gb109,4,none⟩ = some (.int .i64 ((rd_T26 l0 x9_1).f2.f1)):=(blk_cell BK109.out 4).trans rfl;have hfz23_0:=blk_frozen BK109.out 0;have hfz23_1:=blk_frozen BK109.out 1;have hfz23_2:=blk_frozen BK109.out 2;have hfz23_3:=blk_frozen BK109.out 3;have hfz23_4:=blk_frozen BK109.out 4))
        go_roundg k1
        case measure=>have:=HK1.out;omega
        case rel=>exact ⟨(y111),(wrap64 (x9_1 + 1)),(by first|rfl|(simp;done)|(simp [*];done)),H',⟨by have:=HK1.out;omega⟩,⟨by (with_reducible repeat (first|apply Kd.R_alloc|apply Kd.R_drewN|apply Kd.R_drew));exact Kd.R_mono HO113.out (fun _ hk=>trivial)⟩,⟨by repeat (first|(with_reducible first|exact HB.out|apply below_alloc|apply pw_below_drewN|apply below_drew1|refine below_set ?_ GE109.out|refine below_set ?_ GE110.out)|exact HB.out)⟩⟩
      ·rw [if_neg c5] at H
       exact absurd H (by simp)
     ·rw [if_neg c4] at H
      exact absurd H (by simp)
    ·rw [if_neg c3] at H
     exact absurd H (by simp)
   ·rw [if_neg c2] at H
    have c2b0 : decide (x9_1 < (l0.length : Int)) = false:=decide_eq_false c2
    clear c2
    obtain rfl:=Option.some.inj H
    go_wp2
    go_ret
    exact ⟨_,by first|rfl|(simp [errW_none,errW_some] <;> rfl)|(simp [*,errW_none,errW_some] <;> rfl),by (with_reducible repeat (first|apply Kd.R_alloc|apply Kd.R_drewN|apply Kd.R_drew));exact HO_3.out,by repeat (first|(with_reducible first|exact HB.out|apply below_alloc|apply pw_below_drewN|apply below_drew1)|exact HB.out)⟩

end Go.Proofs.Yteebkkdbkkibmaa.Pr
