/- Functions of this claim and what their calls compute, written by wip/tools/mp.py, a variant of the kit printer. Conditions: each theorem has its own. -/
import Derived.Test.YteebkkdbkkibmaaPr0
import Derived.Test.YteebkkdbkkibmaaPr26
import Derived.Test.YteebkkdbkkibmaaQ8
namespace Go.Proofs.Yteebkkdbkkibmaa.Pr
open Go.RowKit Go.Proofs.YteebkkdbkkibmaaW.PrintWords Go.Proofs.YteebkkdbkkibmaaW.PrintLast Go.Proofs.YteebkkdbkkibmaaW.PrintMore
attribute [local go_sem] max2_int min2_int max_two min_two max_three min_three max_four min_four   -- for this text's walks alone
set_option linter.unusedVariables false
set_option linter.unusedSimpArgs false

/-! ### difference_Holds: function 28 -/
def difference_Holds.j0 : Nat → Int → Int → Int → Int → Bool → Int → Int → Int → Int → Int → Option (Bool)
 | 0,_,_,_,_,_,_,_,_,_,_ => none
 | k + 1,x6,x7,x9,x10,x35,x574000,x574001,x574002,x574003,x574004 => if x35 = true then (some false) else ((cmp_Compare_int.f x6 x9).bind fun t580 => ((cmp_Compare_uint64.f x7 x10).bind fun t581 => ((cmp_Or_int.f k (([t580,t581] : List Int))).bind fun t585 => (if x574000 = 1 then (if t585 ≤ 0 then (some true) else (if x574000 = 2 then (some (t585 == 0)) else (some false))) else (if x574000 = 2 then (some (t585 == 0)) else (some false))))))
def difference_Holds.f (k : Nat) (a0_0 : Int) (a0_1 : Int) (a0_2 : Int) (a0_3 : Int) (a0_4 : Int) (l1 : List Int) : Option (Bool):=(difference_Holds_1.f a0_1 a0_2 l1).bind fun bt574=>((difference_Holds_1.f a0_3 a0_4 l1).bind fun bt577=>(if bt574.2.2 = true then (difference_Holds.j0 k bt574.1 bt574.2.1 bt577.1 bt577.2.1 (!bt577.2.2) a0_0 a0_1 a0_2 a0_3 a0_4) else (difference_Holds.j0 k bt574.1 bt574.2.1 bt577.1 bt577.2.1 true a0_0 a0_1 a0_2 a0_3 a0_4)))
theorem difference_Holds.mono_l : ∀ k,(∀ y0 y1 y2 y3 y4 y5 y6 y7 y8 y9,LeO (difference_Holds.j0 k y0 y1 y2 y3 y4 y5 y6 y7 y8 y9) (difference_Holds.j0 (k + 1) y0 y1 y2 y3 y4 y5 y6 y7 y8 y9))
 | 0 => fun _ _ _ _ _ _ _ _ _ _ r h => by simp [difference_Holds.j0] at h
 | k + 1 => by
  have ih0:=difference_Holds.mono_l k
  ·intro y0 y1 y2 y3 y4 y5 y6 y7 y8 y9
   unfold difference_Holds.j0
   repeat' first
   | (with_reducible exact ih0 _ _ _ _ _ _ _ _ _ _)
   | (with_reducible exact cmp_Or_int.mono _ _)
   | (with_reducible exact LeO.refl _)
   | (with_reducible exact LeO.none _)
   | (with_reducible refine LeO.ite ?_ ?_)
   | (with_reducible refine LeO.bind ?_ (fun _ => ?_))
   | exact ih0 _ _ _ _ _ _ _ _ _ _
   | exact cmp_Or_int.mono _ _
   | exact LeO.none _
   | refine LeO.ite ?_ ?_
   | refine LeO.bind ?_ (fun _ => ?_)
theorem difference_Holds.mono : ∀ a0 a1 a2 a3 a4 a5 k,LeO (difference_Holds.f k a0 a1 a2 a3 a4 a5) (difference_Holds.f (k + 1) a0 a1 a2 a3 a4 a5):=by
 intro a0 a1 a2 a3 a4 a5 k
 have ih0:=difference_Holds.mono_l k
 unfold difference_Holds.f
 repeat' first
   | (with_reducible exact ih0 _ _ _ _ _ _ _ _ _ _)
   | (with_reducible exact cmp_Or_int.mono _ _)
   | (with_reducible exact LeO.refl _)
   | (with_reducible exact LeO.none _)
   | (with_reducible refine LeO.ite ?_ ?_)
   | (with_reducible refine LeO.bind ?_ (fun _ => ?_))
   | exact ih0 _ _ _ _ _ _ _ _ _ _
   | exact cmp_Or_int.mono _ _
   | exact LeO.none _
   | refine LeO.ite ?_ ?_
   | refine LeO.bind ?_ (fun _ => ?_)
set_option maxHeartbeats 8000000 in
set_option maxRecDepth 100000 in
theorem difference_Holds.calls (k : Nat) (a0_0 : Int) (a0_1 : Int) (a0_2 : Int) (a0_3 : Int) (a0_4 : Int) (A1 : Option Addr) (c1 : Nat) (l1 : List Int) (r : Bool) (w : World) (hr1 : Kd.C (Kd.int .i64) w A1 l1.length l1) (hc1 : l1.length ≤ c1) (h : difference_Holds.f k a0_0 a0_1 a0_2 a0_3 a0_4 l1 = some r) :
  Calls Try.prog 28 #[.agg #[.int .i64 a0_0,.int .i64 a0_1,.int .i64 a0_2,.int .i64 a0_3,.int .i64 a0_4],.slice A1 l1.length c1] w fun e w'=>e = .returned (.bool r) ∧ Below w.heap.size w w':=by
 have hu26:=Try.underlying26
 have hu24:=Try.underlying24
 have HR1:=Aside0.mk hr1
 have HC1:=Aside0.mk hc1
 clear hr1 hc1
 have HB:=Aside0.mk (Below.refl w.heap.size w)
 have H : ((difference_Holds_1.f a0_1 a0_2 l1).bind fun bt574=>((difference_Holds_1.f a0_3 a0_4 l1).bind fun bt577=>(if bt574.2.2 = true then (difference_Holds.j0 k bt574.1 bt574.2.1 bt577.1 bt577.2.1 (!bt577.2.2) a0_0 a0_1 a0_2 a0_3 a0_4) else (difference_Holds.j0 k bt574.1 bt574.2.1 bt577.1 bt577.2.1 true a0_0 a0_1 a0_2 a0_3 a0_4)))) = some r:=h
 clear h
 replace H:=Option.bind_eq_some_iff.mp H
 obtain ⟨⟨t574,t575,t576⟩,A30,H⟩:=H
 replace H : ((difference_Holds_1.f a0_3 a0_4 l1).bind fun bt577=>(if t576 = true then (difference_Holds.j0 k t574 t575 bt577.1 bt577.2.1 (!bt577.2.2) a0_0 a0_1 a0_2 a0_3 a0_4) else (difference_Holds.j0 k t574 t575 bt577.1 bt577.2.1 true a0_0 a0_1 a0_2 a0_3 a0_4))) = some r:=H
 have A3:=Aside0.mk A30
 clear A30
 replace H:=Option.bind_eq_some_iff.mp H
 obtain ⟨⟨t577,t578,t579⟩,A40,H⟩:=H
 replace H : (if t576 = true then (difference_Holds.j0 k t574 t575 t577 t578 (!t579) a0_0 a0_1 a0_2 a0_3 a0_4) else (difference_Holds.j0 k t574 t575 t577 t578 true a0_0 a0_1 a0_2 a0_3 a0_4)) = some r:=H
 have A4:=Aside0.mk A40
 clear A40
 have HC5:=Aside0.mk H
 clear H
 have hmf : ∀ (fn : Fn) (first cap : Array Value) (w : World),(Instr.makeFunc fn first cap).run Try.prog w = .ok (.func fn first cap) w:=fun _ _ _ _=>rfl
 go_enter Try.func28,Try.ntmps28
 go_upto_region 4 with (first|((with_reducible refine gate_dst (N:=2) rfl ?_);refine box_event ?hg (N:=2) ?hd (cs:=#[.int .i64 a0_0,.int .i64 a0_1,.int .i64 a0_2,.int .i64 a0_3,.int .i64 a0_4]) (t:=26) ?hr ?_;(case hd=>rfl);(case hg=>rfl);(case hr=>first|(go_simp;done)|(go_simp;rfl));intro gb573 hg w6 hbox hb;have n0_:=Aside0.mk (below_step (by repeat (first|(with_reducible first|exact HB.out|apply below_alloc|apply pw_below_drewN|apply below_drew1)|exact HB.out)) hb);have n1_:=Aside0.mk (hbox);have n2_:=Aside0.mk ((by rw [hg];exact (below_size (by repeat (first|(with_reducible first|exact HB.out|apply below_alloc|apply pw_below_drewN|apply below_drew1)|exact HB.out))) : w.heap.size ≤ gb573));have n3_:=Aside0.mk ((by rw [hg];exact (below_size (by repeat (first|(with_reducible first|exact HB.out|apply below_alloc|apply pw_below_drewN|apply below_drew1)|exact HB.out))) : w.heap.size ≤ gb573));clear HB;have HB:=n0_;have BK573:=n1_;have GW573:=n2_;have GE573:=n3_;clear n0_ n1_ n2_ n3_;clear hb hbox hg;have hcz7_0 : w6.cell? ⟨gb573,0,none⟩ = some (.int .i64 a0_0):=(blk_cell BK573.out 0).trans rfl;have hcz7_1 : w6.cell? ⟨gb573,1,none⟩ = some (.int .i64 a0_1):=(blk_cell BK573.out 1).trans rfl;have hcz7_2 : w6.cell? ⟨gb573,2,none⟩ = some (.int .i64 a0_2):=(blk_cell BK573.out 2).trans rfl;have hcz7_3 : w6.cell? ⟨gb573,3,none⟩ = some (.int .i64 a0_3):=(blk_cell BK573.out 3).trans rfl;have hcz7_4 : w6.cell? ⟨gb573,4,none⟩ = some (.int .i64 a0_4):=(blk_cell BK573.out 4).trans rfl;have hfz7_0:=blk_frozen BK573.out 0;have hfz7_1:=blk_frozen BK573.out 1;have hfz7_2:=blk_frozen BK573.out 2;have hfz7_3:=blk_frozen BK573.out 3;have hfz7_4:=blk_frozen BK573.out 4)|((with_reducible refine gate_dst (N:=3) rfl ?_);refine box_event ?hg (N:=3) ?hd (cs:=#[.slice A1 l1.length c1]) (t:=36) ?hr ?_;(case hd=>rfl);(case hg=>rfl);(case hr=>first|(go_simp;done)|(go_simp;rfl));intro gbV hg wV hbox hb;have n0_:=Aside0.mk (blk_below (g:=gb573) (o:=.cells #[.int .i64 a0_0,.int .i64 a0_1,.int .i64 a0_2,.int .i64 a0_3,.int .i64 a0_4] 26 (0,0)) (by (with_reducible repeat (first|refine blk_drewN ?_ _|refine blk_drew ?_|refine blk_alloc ?_ _));exact BK573.out) hb);have n1_:=Aside0.mk (below_step (by repeat (first|(with_reducible first|exact HB.out|apply below_alloc|apply pw_below_drewN|apply below_drew1)|exact HB.out)) hb);clear BK573;clear HB;have BK573:=n0_;have HB:=n1_;clear n0_ n1_;have BKV:=Aside0.mk hbox;clear hb hbox hg;have hcv_0 : wV.cell? ⟨gb573,0,none⟩ = some (.int .i64 a0_0):=(blk_cell BK573.out 0).trans rfl;have hfv_0:=blk_frozen BK573.out 0;have hcv_1 : wV.cell? ⟨gb573,1,none⟩ = some (.int .i64 a0_1):=(blk_cell BK573.out 1).trans rfl;have hfv_1:=blk_frozen BK573.out 1;have hcv_2 : wV.cell? ⟨gb573,2,none⟩ = some (.int .i64 a0_2):=(blk_cell BK573.out 2).trans rfl;have hfv_2:=blk_frozen BK573.out 2;have hcv_3 : wV.cell? ⟨gb573,3,none⟩ = some (.int .i64 a0_3):=(blk_cell BK573.out 3).trans rfl;have hfv_3:=blk_frozen BK573.out 3;have hcv_4 : wV.cell? ⟨gb573,4,none⟩ = some (.int .i64 a0_4):=(blk_cell BK573.out 4).trans rfl;have hfv_4:=blk_frozen BK573.out 4)|(go_at_call 55;(with_reducible refine (difference_Holds_1.calls a0_1 a0_2 A1 c1 l1 t574 t575 t576 _ ?side1 ?side2 A3.out ?sg0).mono ?_);(case sg0=>exact (blk_cell (t:=36) (cs:=#[.slice A1 l1.length c1]) (by (with_reducible repeat (first|refine blk_drewN ?_ _|refine blk_drew ?_|refine blk_alloc ?_ _));exact BKV.out) 0).trans rfl);(case side1=>repeat (first|exact (Kd.C_below HR1.out HB.out)|(with_reducible refine Kd.C_alloc ?_ _)|(with_reducible refine Kd.C_drewN ?_ _)|(with_reducible refine Kd.C_drew ?_)));(case side2=>exact HC1.out);rintro e w8 ⟨rfl,hb⟩;have nV_:=Aside0.mk (blk_below (g:=gbV) (o:=.cells #[.slice A1 l1.length c1] 36 (0,0)) (by (with_reducible repeat (first|refine blk_drewN ?_ _|refine blk_drew ?_|refine blk_alloc ?_ _));exact BKV.out) hb);clear BKV;have BKV:=nV_;clear nV_;have n0_:=Aside0.mk (blk_below (g:=gb573) (o:=.cells #[.int .i64 a0_0,.int .i64 a0_1,.int .i64 a0_2,.int .i64 a0_3,.int .i64 a0_4] 26 (0,0)) (by (with_reducible repeat (first|refine blk_drewN ?_ _|refine blk_drew ?_|refine blk_alloc ?_ _));exact BK573.out) hb);have n1_:=Aside0.mk (below_step (by repeat (first|(with_reducible first|exact HB.out|apply below_alloc|apply pw_below_drewN|apply below_drew1|refine below_set ?_ GE573.out)|exact HB.out)) hb);clear BK573;clear HB;have BK573:=n0_;have HB:=n1_;clear n0_ n1_;(try clear hb);(try clear hb2);(try clear hk);(try clear hi);have hcz9_0 : w8.cell? ⟨gb573,0,none⟩ = some (.int .i64 a0_0):=(blk_cell BK573.out 0).trans rfl;have hcz9_1 : w8.cell? ⟨gb573,1,none⟩ = some (.int .i64 a0_1):=(blk_cell BK573.out 1).trans rfl;have hcz9_2 : w8.cell? ⟨gb573,2,none⟩ = some (.int .i64 a0_2):=(blk_cell BK573.out 2).trans rfl;have hcz9_3 : w8.cell? ⟨gb573,3,none⟩ = some (.int .i64 a0_3):=(blk_cell BK573.out 3).trans rfl;have hcz9_4 : w8.cell? ⟨gb573,4,none⟩ = some (.int .i64 a0_4):=(blk_cell BK573.out 4).trans rfl;have hfz9_0:=blk_frozen BK573.out 0;have hfz9_1:=blk_frozen BK573.out 1;have hfz9_2:=blk_frozen BK573.out 2;have hfz9_3:=blk_frozen BK573.out 3;have hfz9_4:=blk_frozen BK573.out 4)|(go_at_call 55;(with_reducible refine (difference_Holds_1.calls a0_3 a0_4 A1 c1 l1 t577 t578 t579 _ ?side1 ?side2 A4.out ?sg0).mono ?_);(case sg0=>exact (blk_cell (t:=36) (cs:=#[.slice A1 l1.length c1]) (by (with_reducible repeat (first|refine blk_drewN ?_ _|refine blk_drew ?_|refine blk_alloc ?_ _));exact BKV.out) 0).trans rfl);(case side1=>repeat (first|exact (Kd.C_below HR1.out HB.out)|(with_reducible refine Kd.C_alloc ?_ _)|(with_reducible refine Kd.C_drewN ?_ _)|(with_reducible refine Kd.C_drew ?_)));(case side2=>exact HC1.out);rintro e w10 ⟨rfl,hb⟩;have nV_:=Aside0.mk (blk_below (g:=gbV) (o:=.cells #[.slice A1 l1.length c1] 36 (0,0)) (by (with_reducible repeat (first|refine blk_drewN ?_ _|refine blk_drew ?_|refine blk_alloc ?_ _));exact BKV.out) hb);clear BKV;have BKV:=nV_;clear nV_;have n0_:=Aside0.mk (blk_below (g:=gb573) (o:=.cells #[.int .i64 a0_0,.int .i64 a0_1,.int .i64 a0_2,.int .i64 a0_3,.int .i64 a0_4] 26 (0,0)) (by (with_reducible repeat (first|refine blk_drewN ?_ _|refine blk_drew ?_|refine blk_alloc ?_ _));exact BK573.out) hb);have n1_:=Aside0.mk (below_step (by repeat (first|(with_reducible first|exact HB.out|apply below_alloc|apply pw_below_drewN|apply below_drew1|refine below_set ?_ GE573.out)|exact HB.out)) hb);clear BK573;clear HB;have BK573:=n0_;have HB:=n1_;clear n0_ n1_;(try clear hb);(try clear hb2);(try clear hk);(try clear hi)))
 (try simp only [Act.put,List.setIfInBounds_toArray,List.set_cons_zero,List.set_cons_succ])
 go_cut [35] (fun v35 wc=>∃ (kq : Nat) (x35_4 : Bool),v35 = .bool x35_4 ∧ Aside0 (difference_Holds.j0 kq t574 t575 t577 t578 x35_4 a0_0 a0_1 a0_2 a0_3 a0_4 = some r) ∧ Aside0 (kq ≤ k) ∧ Aside0 (wc.heap[gb573]? = some (.cells #[.int .i64 a0_0,.int .i64 a0_1,.int .i64 a0_2,.int .i64 a0_3,.int .i64 a0_4] 26 (0,0))) ∧ Aside0 (Below w.heap.size w wc))
 case first =>
  have H:=HC5.out
  clear HC5
  by_cases c11 : t576 = true
  ·subst c11
   have H1 : (difference_Holds.j0 k t574 t575 t577 t578 (!t579) a0_0 a0_1 a0_2 a0_3 a0_4) = some r:=by rw [if_pos rfl] at H;exact H
   clear H
   have H:=H1
   clear H1
   have H':=Aside0.mk H
   clear H
   go_wp2
   go_meet
   case rel=>exact ⟨_,(!t579),(by first|rfl|(simp;done)|(simp [*];done)),H',⟨by first|omega|exact Nat.le_refl _⟩,⟨by (with_reducible repeat (first|refine blk_drewN ?_ _|refine blk_drew ?_|refine blk_alloc ?_ _));exact BK573.out⟩,⟨by repeat (first|(with_reducible first|exact HB.out|apply below_alloc|apply pw_below_drewN|apply below_drew1|refine below_set ?_ GE573.out)|exact HB.out)⟩⟩
  ·replace c11:=Bool.eq_false_iff.mpr c11
   subst c11
   have H1 : (difference_Holds.j0 k t574 t575 t577 t578 true a0_0 a0_1 a0_2 a0_3 a0_4) = some r:=by rw [if_neg (show ¬ (false = true) by decide)] at H;exact H
   clear H
   have H:=H1
   clear H1
   have H':=Aside0.mk H
   clear H
   go_wp2
   go_meet
   case rel=>exact ⟨_,(true),(by first|rfl|(simp;done)|(simp [*];done)),H',⟨by first|omega|exact Nat.le_refl _⟩,⟨by (with_reducible repeat (first|refine blk_drewN ?_ _|refine blk_drew ?_|refine blk_alloc ?_ _));exact BK573.out⟩,⟨by repeat (first|(with_reducible first|exact HB.out|apply below_alloc|apply pw_below_drewN|apply below_drew1|refine below_set ?_ GE573.out)|exact HB.out)⟩⟩
 case rest =>
  clear HC5
  try clear c1
  try clear c2
  try clear p2
  try clear c5
  try clear c11
  try clear hcz7_0
  try clear hcz7_1
  try clear hcz7_2
  try clear hcz7_3
  try clear hcz7_4
  try clear hcz9_0
  try clear hcz9_1
  try clear hcz9_2
  try clear hcz9_3
  try clear hcz9_4
  try clear hfz7_0
  try clear hfz7_1
  try clear hfz7_2
  try clear hfz7_3
  try clear hfz7_4
  try clear hfz9_0
  try clear hfz9_1
  try clear hfz9_2
  try clear hfz9_3
  try clear hfz9_4
  obtain ⟨kq,x35_4,rfl,HA,HJ4,BK573,HB⟩:=hcut
  cases kq with
  | zero => exact absurd HA.out (by simp [difference_Holds.j0])
  | succ kj4 =>
   have H:=HA.out
   clear HA
   simp only [difference_Holds.j0] at H
   by_cases c12 : x35_4 = true
   ·subst c12
    have H1 : (some false) = some r:=by rw [if_pos rfl] at H;exact H
    clear H
    have H:=H1
    clear H1
    obtain rfl:=Option.some.inj H
    go_wp2
    go_ret
    exact ⟨by first|rfl|(simp [errW_none,errW_some] <;> rfl)|(simp [*,errW_none,errW_some] <;> rfl),by repeat (first|(with_reducible first|exact HB.out|apply below_alloc|apply pw_below_drewN|apply below_drew1|refine below_set ?_ GE573.out)|exact HB.out)⟩
   ·replace c12:=Bool.eq_false_iff.mpr c12
    subst c12
    have H1 : ((cmp_Compare_int.f t574 t577).bind fun t580=>((cmp_Compare_uint64.f t575 t578).bind fun t581=>((cmp_Or_int.f kj4 (([t580,t581] : List Int))).bind fun t585=>(if a0_0 = 1 then (if t585 ≤ 0 then (some true) else (if a0_0 = 2 then (some (t585 == 0)) else (some false))) else (if a0_0 = 2 then (some (t585 == 0)) else (some false)))))) = some r:=by rw [if_neg (show ¬ (false = true) by decide)] at H;exact H
    clear H
    have H:=H1
    clear H1
    replace H:=Option.bind_eq_some_iff.mp H
    obtain ⟨t580,A130,H⟩:=H
    replace H : ((cmp_Compare_uint64.f t575 t578).bind fun t581=>((cmp_Or_int.f kj4 (([t580,t581] : List Int))).bind fun t585=>(if a0_0 = 1 then (if t585 ≤ 0 then (some true) else (if a0_0 = 2 then (some (t585 == 0)) else (some false))) else (if a0_0 = 2 then (some (t585 == 0)) else (some false))))) = some r:=H
    have A13:=Aside0.mk A130
    clear A130
    replace H:=Option.bind_eq_some_iff.mp H
    obtain ⟨t581,A140,H⟩:=H
    replace H : ((cmp_Or_int.f kj4 (([t580,t581] : List Int))).bind fun t585=>(if a0_0 = 1 then (if t585 ≤ 0 then (some true) else (if a0_0 = 2 then (some (t585 == 0)) else (some false))) else (if a0_0 = 2 then (some (t585 == 0)) else (some false)))) = some r:=H
    have A14:=Aside0.mk A140
    clear A140
    obtain ⟨y582,hy582⟩ : ∃ y_ : List Int,y_ = (([t580,t581] : List Int)):=⟨_,rfl⟩
    replace H : ((cmp_Or_int.f kj4 y582).bind fun t585=>(if a0_0 = 1 then (if t585 ≤ 0 then (some true) else (if a0_0 = 2 then (some (t585 == 0)) else (some false))) else (if a0_0 = 2 then (some (t585 == 0)) else (some false)))) = some r:=by first|(rw [hy582];with_reducible exact H)|(have H2_:=(Option.bind_some _ _).symm.trans H;rw [hy582];with_reducible exact H2_)|(have H2_:=(Option.bind_some _ _).symm.trans H;with_reducible exact H2_)|with_reducible exact H|(rw [hy582];exact H)|exact H
    have Ny582:=Aside0.mk hy582
    clear hy582
    replace H:=Option.bind_eq_some_iff.mp H
    obtain ⟨t585,A150,H⟩:=H
    replace H : (if a0_0 = 1 then (if t585 ≤ 0 then (some true) else (if a0_0 = 2 then (some (t585 == 0)) else (some false))) else (if a0_0 = 2 then (some (t585 == 0)) else (some false))) = some r:=H
    have A15:=Aside0.mk A150
    clear A150
    by_cases c16 : a0_0 = 1
    ·rw [if_pos c16] at H
     have c16b0 : (a0_0 == 1) = true:=beq_iff_eq.mpr c16
     have c16b1 : (a0_0 != 1) = false:=bne_eq_false_iff_eq.mpr c16
     clear c16
     by_cases c17 : t585 ≤ 0
     ·rw [if_pos c17] at H
      have c17b0 : decide (t585 ≤ 0) = true:=decide_eq_true c17
      clear c17
      obtain rfl:=Option.some.inj H
      go_wp2_with (first|((with_reducible refine gate_callee (f:=58) rfl ?_);refine goesL_ (some 38) rfl rfl Try.func58 (by kernel_rfl) rfl #[.int .i64 t574,.int .i64 t577] rfl (by (try simp only [List.map_toArray,List.map_cons,List.map_nil]);first|done|rfl|(simp only [List.length_drop,List.length_take];rfl)) ?_;(with_reducible refine (cmp_Compare_int.calls t574 t577 t580 _ A13.out).mono ?_);rintro e w' ⟨rfl,⟨nd,rfl⟩⟩;refine ⟨_,rfl,?_⟩)|((with_reducible refine gate_callee (f:=59) rfl ?_);refine goesL_ (some 41) rfl rfl Try.func59 (by kernel_rfl) rfl #[.int .u64 t575,.int .u64 t578] rfl (by (try simp only [List.map_toArray,List.map_cons,List.map_nil]);first|done|rfl|(simp only [List.length_drop,List.length_take];rfl)) ?_;(with_reducible refine (cmp_Compare_uint64.calls t575 t578 t581 _ A14.out).mono ?_);rintro e w' ⟨rfl,⟨nd,rfl⟩⟩;refine ⟨_,rfl,?_⟩)|((with_reducible refine gate_dst (N:=42) rfl ?_);refine Kd.R_lit (Kd.int .i64) _ 3 ?hg (N:=42) ?hd (xs:=([t580,t581] : List Int)) (inner:=[.int .i64 t580,.int .i64 t581]) (ok:=fun _=>True) (okp:=fun _=>True) ?hr ?hp (fun _ hk=>hk) trivial (Below.refl _ _) (Nat.le_refl _) (by simp) ?_;(case hd=>rfl);(case hg=>rfl);(case hr=>first|(go_simp;done)|(go_simp;rfl));(case hp=>exact (Reps.one (show Kd.M (Kd.int .i64) _ _ _ t580 [.int .i64 t580] from rfl) (Reps.one (show Kd.M (Kd.int .i64) _ _ _ t581 [.int .i64 t581] from rfl) (Reps.none _ _))));intro v583 w18 ho19 hb hg_ hnew_;clear hg_ hnew_;(first|rw [← Ny582.out] at ho19|(simp only [Int.reduceToNat] at ho19;rw [← Ny582.out] at ho19));have n0_:=Aside0.mk (Kd.R_lower ho19 (below_size (by repeat (first|(with_reducible first|exact HB.out|apply below_alloc|apply pw_below_drewN|apply below_drew1|refine below_set ?_ GE573.out)|exact HB.out))));have n1_:=Aside0.mk (blk_below (g:=gb573) (o:=.cells #[.int .i64 a0_0,.int .i64 a0_1,.int .i64 a0_2,.int .i64 a0_3,.int .i64 a0_4] 26 (0,0)) (by (with_reducible repeat (first|refine blk_drewN ?_ _|refine blk_drew ?_|refine blk_alloc ?_ _));exact BK573.out) hb);have n2_:=Aside0.mk (below_step (by repeat (first|(with_reducible first|exact HB.out|apply below_alloc|apply pw_below_drewN|apply below_drew1|refine below_set ?_ GE573.out)|exact HB.out)) hb);clear BK573;clear HB;have HO584:=n0_;have BK573:=n1_;have HB:=n2_;clear n0_ n1_ n2_;clear hb ho19;obtain ⟨Ao20,co20,eo20⟩:=Kd.R_slice HO584.out;subst eo20)|((with_reducible refine gate_callee (f:=57) rfl ?_);refine goesL_ (some 43) rfl rfl Try.func57 (by kernel_rfl) rfl #[.slice Ao20 y582.length co20] rfl (by (try simp only [List.map_toArray,List.map_cons,List.map_nil]);first|done|rfl|(simp only [List.length_drop,List.length_take];rfl)) ?_;(with_reducible refine (cmp_Or_int.calls kj4 _ _ y582 t585 _ ?side1 ?side2 A15.out).mono ?_);(case side1=>repeat (first|exact (Kd.R_reads' HO584.out).2.2|(with_reducible refine Kd.C_alloc ?_ _)|(with_reducible refine Kd.C_drewN ?_ _)|(with_reducible refine Kd.C_drew ?_)));(case side2=>exact (Kd.R_reads' HO584.out).2.1);rintro e w' ⟨rfl,⟨nd,rfl⟩⟩;refine ⟨_,rfl,?_⟩;have hcz21_0 : w18.cell? ⟨gb573,0,none⟩ = some (.int .i64 a0_0):=(blk_cell BK573.out 0).trans rfl;have hcz21_1 : w18.cell? ⟨gb573,1,none⟩ = some (.int .i64 a0_1):=(blk_cell BK573.out 1).trans rfl;have hcz21_2 : w18.cell? ⟨gb573,2,none⟩ = some (.int .i64 a0_2):=(blk_cell BK573.out 2).trans rfl;have hcz21_3 : w18.cell? ⟨gb573,3,none⟩ = some (.int .i64 a0_3):=(blk_cell BK573.out 3).trans rfl;have hcz21_4 : w18.cell? ⟨gb573,4,none⟩ = some (.int .i64 a0_4):=(blk_cell BK573.out 4).trans rfl;have hfz21_0:=blk_frozen BK573.out 0;have hfz21_1:=blk_frozen BK573.out 1;have hfz21_2:=blk_frozen BK573.out 2;have hfz21_3:=blk_frozen BK573.out 3;have hfz21_4:=blk_frozen BK573.out 4))
      go_ret
      exact ⟨by first|rfl|(simp [errW_none,errW_some] <;> rfl)|(simp [*,errW_none,errW_some] <;> rfl),by repeat (first|(with_reducible first|exact HB.out|apply below_alloc|apply pw_below_drewN|apply below_drew1|refine below_set ?_ GE573.out)|exact HB.out)⟩
     ·rw [if_neg c17] at H
      have c17b0 : decide (t585 ≤ 0) = false:=decide_eq_false c17
      clear c17
      by_cases c22 : a0_0 = 2
      ·rw [if_pos c22] at H
       have c22b0 : (a0_0 == 2) = true:=beq_iff_eq.mpr c22
       have c22b1 : (a0_0 != 2) = false:=bne_eq_false_iff_eq.mpr c22
       clear c22
       obtain rfl:=Option.some.inj H
       go_wp2_with (first|((with_reducible refine gate_callee (f:=58) rfl ?_);refine goesL_ (some 38) rfl rfl Try.func58 (by kernel_rfl) rfl #[.int .i64 t574,.int .i64 t577] rfl (by (try simp only [List.map_toArray,List.map_cons,List.map_nil]);first|done|rfl|(simp only [List.length_drop,List.length_take];rfl)) ?_;(with_reducible refine (cmp_Compare_int.calls t574 t577 t580 _ A13.out).mono ?_);rintro e w' ⟨rfl,⟨nd,rfl⟩⟩;refine ⟨_,rfl,?_⟩)|((with_reducible refine gate_callee (f:=59) rfl ?_);refine goesL_ (some 41) rfl rfl Try.func59 (by kernel_rfl) rfl #[.int .u64 t575,.int .u64 t578] rfl (by (try simp only [List.map_toArray,List.map_cons,List.map_nil]);first|done|rfl|(simp only [List.length_drop,List.length_take];rfl)) ?_;(with_reducible refine (cmp_Compare_uint64.calls t575 t578 t581 _ A14.out).mono ?_);rintro e w' ⟨rfl,⟨nd,rfl⟩⟩;refine ⟨_,rfl,?_⟩)|((with_reducible refine gate_dst (N:=42) rfl ?_);refine Kd.R_lit (Kd.int .i64) _ 3 ?hg (N:=42) ?hd (xs:=([t580,t581] : List Int)) (inner:=[.int .i64 t580,.int .i64 t581]) (ok:=fun _=>True) (okp:=fun _=>True) ?hr ?hp (fun _ hk=>hk) trivial (Below.refl _ _) (Nat.le_refl _) (by simp) ?_;(case hd=>rfl);(case hg=>rfl);(case hr=>first|(go_simp;done)|(go_simp;rfl));(case hp=>exact (Reps.one (show Kd.M (Kd.int .i64) _ _ _ t580 [.int .i64 t580] from rfl) (Reps.one (show Kd.M (Kd.int .i64) _ _ _ t581 [.int .i64 t581] from rfl) (Reps.none _ _))));intro v583 w23 ho24 hb hg_ hnew_;clear hg_ hnew_;(first|rw [← Ny582.out] at ho24|(simp only [Int.reduceToNat] at ho24;rw [← Ny582.out] at ho24));have n0_:=Aside0.mk (Kd.R_lower ho24 (below_size (by repeat (first|(with_reducible first|exact HB.out|apply below_alloc|apply pw_below_drewN|apply below_drew1|refine below_set ?_ GE573.out)|exact HB.out))));have n1_:=Aside0.mk (blk_below (g:=gb573) (o:=.cells #[.int .i64 a0_0,.int .i64 a0_1,.int .i64 a0_2,.int .i64 a0_3,.int .i64 a0_4] 26 (0,0)) (by (with_reducible repeat (first|refine blk_drewN ?_ _|refine blk_drew ?_|refine blk_alloc ?_ _));exact BK573.out) hb);have n2_:=Aside0.mk (below_step (by repeat (first|(with_reducible first|exact HB.out|apply below_alloc|apply pw_below_drewN|apply below_drew1|refine below_set ?_ GE573.out)|exact HB.out)) hb);clear BK573;clear HB;have HO584:=n0_;have BK573:=n1_;have HB:=n2_;clear n0_ n1_ n2_;clear hb ho24;obtain ⟨Ao25,co25,eo25⟩:=Kd.R_slice HO584.out;subst eo25)|((with_reducible refine gate_callee (f:=57) rfl ?_);refine goesL_ (some 43) rfl rfl Try.func57 (by kernel_rfl) rfl #[.slice Ao25 y582.length co25] rfl (by (try simp only [List.map_toArray,List.map_cons,List.map_nil]);first|done|rfl|(simp only [List.length_drop,List.length_take];rfl)) ?_;(with_reducible refine (cmp_Or_int.calls kj4 _ _ y582 t585 _ ?side1 ?side2 A15.out).mono ?_);(case side1=>repeat (first|exact (Kd.R_reads' HO584.out).2.2|(with_reducible refine Kd.C_alloc ?_ _)|(with_reducible refine Kd.C_drewN ?_ _)|(with_reducible refine Kd.C_drew ?_)));(case side2=>exact (Kd.R_reads' HO584.out).2.1);rintro e w' ⟨rfl,⟨nd,rfl⟩⟩;refine ⟨_,rfl,?_⟩;have hcz26_0 : w23.cell? ⟨gb573,0,none⟩ = some (.int .i64 a0_0):=(blk_cell BK573.out 0).trans rfl;have hcz26_1 : w23.cell? ⟨gb573,1,none⟩ = some (.int .i64 a0_1):=(blk_cell BK573.out 1).trans rfl;have hcz26_2 : w23.cell? ⟨gb573,2,none⟩ = some (.int .i64 a0_2):=(blk_cell BK573.out 2).trans rfl;have hcz26_3 : w23.cell? ⟨gb573,3,none⟩ = some (.int .i64 a0_3):=(blk_cell BK573.out 3).trans rfl;have hcz26_4 : w23.cell? ⟨gb573,4,none⟩ = some (.int .i64 a0_4):=(blk_cell BK573.out 4).trans rfl;have hfz26_0:=blk_frozen BK573.out 0;have hfz26_1:=blk_frozen BK573.out 1;have hfz26_2:=blk_frozen BK573.out 2;have hfz26_3:=blk_frozen BK573.out 3;have hfz26_4:=blk_frozen BK573.out 4))
       go_ret
       exact ⟨by first|rfl|(simp [errW_none,errW_some] <;> rfl)|(simp [*,errW_none,errW_some] <;> rfl),by repeat (first|(with_reducible first|exact HB.out|apply below_alloc|apply pw_below_drewN|apply below_drew1|refine below_set ?_ GE573.out)|exact HB.out)⟩
      ·rw [if_neg c22] at H
       have c22b0 : (a0_0 == 2) = false:=beq_eq_false_iff_ne.mpr c22
       have c22b1 : (a0_0 != 2) = true:=bne_iff_ne.mpr c22
       obtain rfl:=Option.some.inj H
       go_wp2_with (first|((with_reducible refine gate_callee (f:=58) rfl ?_);refine goesL_ (some 38) rfl rfl Try.func58 (by kernel_rfl) rfl #[.int .i64 t574,.int .i64 t577] rfl (by (try simp only [List.map_toArray,List.map_cons,List.map_nil]);first|done|rfl|(simp only [List.length_drop,List.length_take];rfl)) ?_;(with_reducible refine (cmp_Compare_int.calls t574 t577 t580 _ A13.out).mono ?_);rintro e w' ⟨rfl,⟨nd,rfl⟩⟩;refine ⟨_,rfl,?_⟩)|((with_reducible refine gate_callee (f:=59) rfl ?_);refine goesL_ (some 41) rfl rfl Try.func59 (by kernel_rfl) rfl #[.int .u64 t575,.int .u64 t578] rfl (by (try simp only [List.map_toArray,List.map_cons,List.map_nil]);first|done|rfl|(simp only [List.length_drop,List.length_take];rfl)) ?_;(with_reducible refine (cmp_Compare_uint64.calls t575 t578 t581 _ A14.out).mono ?_);rintro e w' ⟨rfl,⟨nd,rfl⟩⟩;refine ⟨_,rfl,?_⟩)|((with_reducible refine gate_dst (N:=42) rfl ?_);refine Kd.R_lit (Kd.int .i64) _ 3 ?hg (N:=42) ?hd (xs:=([t580,t581] : List Int)) (inner:=[.int .i64 t580,.int .i64 t581]) (ok:=fun _=>True) (okp:=fun _=>True) ?hr ?hp (fun _ hk=>hk) trivial (Below.refl _ _) (Nat.le_refl _) (by simp) ?_;(case hd=>rfl);(case hg=>rfl);(case hr=>first|(go_simp;done)|(go_simp;rfl));(case hp=>exact (Reps.one (show Kd.M (Kd.int .i64) _ _ _ t580 [.int .i64 t580] from rfl) (Reps.one (show Kd.M (Kd.int .i64) _ _ _ t581 [.int .i64 t581] from rfl) (Reps.none _ _))));intro v583 w27 ho28 hb hg_ hnew_;clear hg_ hnew_;(first|rw [← Ny582.out] at ho28|(simp only [Int.reduceToNat] at ho28;rw [← Ny582.out] at ho28));have n0_:=Aside0.mk (Kd.R_lower ho28 (below_size (by repeat (first|(with_reducible first|exact HB.out|apply below_alloc|apply pw_below_drewN|apply below_drew1|refine below_set ?_ GE573.out)|exact HB.out))));have n1_:=Aside0.mk (blk_below (g:=gb573) (o:=.cells #[.int .i64 a0_0,.int .i64 a0_1,.int .i64 a0_2,.int .i64 a0_3,.int .i64 a0_4] 26 (0,0)) (by (with_reducible repeat (first|refine blk_drewN ?_ _|refine blk_drew ?_|refine blk_alloc ?_ _));exact BK573.out) hb);have n2_:=Aside0.mk (below_step (by repeat (first|(with_reducible first|exact HB.out|apply below_alloc|apply pw_below_drewN|apply below_drew1|refine below_set ?_ GE573.out)|exact HB.out)) hb);clear BK573;clear HB;have HO584:=n0_;have BK573:=n1_;have HB:=n2_;clear n0_ n1_ n2_;clear hb ho28;obtain ⟨Ao29,co29,eo29⟩:=Kd.R_slice HO584.out;subst eo29)|((with_reducible refine gate_callee (f:=57) rfl ?_);refine goesL_ (some 43) rfl rfl Try.func57 (by kernel_rfl) rfl #[.slice Ao29 y582.length co29] rfl (by (try simp only [List.map_toArray,List.map_cons,List.map_nil]);first|done|rfl|(simp only [List.length_drop,List.length_take];rfl)) ?_;(with_reducible refine (cmp_Or_int.calls kj4 _ _ y582 t585 _ ?side1 ?side2 A15.out).mono ?_);(case side1=>repeat (first|exact (Kd.R_reads' HO584.out).2.2|(with_reducible refine Kd.C_alloc ?_ _)|(with_reducible refine Kd.C_drewN ?_ _)|(with_reducible refine Kd.C_drew ?_)));(case side2=>exact (Kd.R_reads' HO584.out).2.1);rintro e w' ⟨rfl,⟨nd,rfl⟩⟩;refine ⟨_,rfl,?_⟩;have hcz30_0 : w27.cell? ⟨gb573,0,none⟩ = some (.int .i64 a0_0):=(blk_cell BK573.out 0).trans rfl;have hcz30_1 : w27.cell? ⟨gb573,1,none⟩ = some (.int .i64 a0_1):=(blk_cell BK573.out 1).trans rfl;have hcz30_2 : w27.cell? ⟨gb573,2,none⟩ = some (.int .i64 a0_2):=(blk_cell BK573.out 2).trans rfl;have hcz30_3 : w27.cell? ⟨gb573,3,none⟩ = some (.int .i64 a0_3):=(blk_cell BK573.out 3).trans rfl;have hcz30_4 : w27.cell? ⟨gb573,4,none⟩ = some (.int .i64 a0_4):=(blk_cell BK573.out 4).trans rfl;have hfz30_0:=blk_frozen BK573.out 0;have hfz30_1:=blk_frozen BK573.out 1;have hfz30_2:=blk_frozen BK573.out 2;have hfz30_3:=blk_frozen BK573.out 3;have hfz30_4:=blk_frozen BK573.out 4))
       go_ret
       exact ⟨by first|rfl|(simp [errW_none,errW_some] <;> rfl)|(simp [*,errW_none,errW_some] <;> rfl),by repeat (first|(with_reducible first|exact HB.out|apply below_alloc|apply pw_below_drewN|apply below_drew1|refine below_set ?_ GE573.out)|exact HB.out)⟩
    ·rw [if_neg c16] at H
     have c16b0 : (a0_0 == 1) = false:=beq_eq_false_iff_ne.mpr c16
     have c16b1 : (a0_0 != 1) = true:=bne_iff_ne.mpr c16
     by_cases c31 : a0_0 = 2
     ·rw [if_pos c31] at H
      have c31b0 : (a0_0 == 2) = true:=beq_iff_eq.mpr c31
      have c31b1 : (a0_0 != 2) = false:=bne_eq_false_iff_eq.mpr c31
      clear c31
      obtain rfl:=Option.some.inj H
      go_wp2_with (first|((with_reducible refine gate_callee (f:=58) rfl ?_);refine goesL_ (some 38) rfl rfl Try.func58 (by kernel_rfl) rfl #[.int .i64 t574,.int .i64 t577] rfl (by (try simp only [List.map_toArray,List.map_cons,List.map_nil]);first|done|rfl|(simp only [List.length_drop,List.length_take];rfl)) ?_;(with_reducible refine (cmp_Compare_int.calls t574 t577 t580 _ A13.out).mono ?_);rintro e w' ⟨rfl,⟨nd,rfl⟩⟩;refine ⟨_,rfl,?_⟩)|((with_reducible refine gate_callee (f:=59) rfl ?_);refine goesL_ (some 41) rfl rfl Try.func59 (by kernel_rfl) rfl #[.int .u64 t575,.int .u64 t578] rfl (by (try simp only [List.map_toArray,List.map_cons,List.map_nil]);first|done|rfl|(simp only [List.length_drop,List.length_take];rfl)) ?_;(with_reducible refine (cmp_Compare_uint64.calls t575 t578 t581 _ A14.out).mono ?_);rintro e w' ⟨rfl,⟨nd,rfl⟩⟩;refine ⟨_,rfl,?_⟩)|((with_reducible refine gate_dst (N:=42) rfl ?_);refine Kd.R_lit (Kd.int .i64) _ 3 ?hg (N:=42) ?hd (xs:=([t580,t581] : List Int)) (inner:=[.int .i64 t580,.int .i64 t581]) (ok:=fun _=>True) (okp:=fun _=>True) ?hr ?hp (fun _ hk=>hk) trivial (Below.refl _ _) (Nat.le_refl _) (by simp) ?_;(case hd=>rfl);(case hg=>rfl);(case hr=>first|(go_simp;done)|(go_simp;rfl));(case hp=>exact (Reps.one (show Kd.M (Kd.int .i64) _ _ _ t580 [.int .i64 t580] from rfl) (Reps.one (show Kd.M (Kd.int .i64) _ _ _ t581 [.int .i64 t581] from rfl) (Reps.none _ _))));intro v583 w32 ho33 hb hg_ hnew_;clear hg_ hnew_;(first|rw [← Ny582.out] at ho33|(simp only [Int.reduceToNat] at ho33;rw [← Ny582.out] at ho33));have n0_:=Aside0.mk (Kd.R_lower ho33 (below_size (by repeat (first|(with_reducible first|exact HB.out|apply below_alloc|apply pw_below_drewN|apply below_drew1|refine below_set ?_ GE573.out)|exact HB.out))));have n1_:=Aside0.mk (blk_below (g:=gb573) (o:=.cells #[.int .i64 a0_0,.int .i64 a0_1,.int .i64 a0_2,.int .i64 a0_3,.int .i64 a0_4] 26 (0,0)) (by (with_reducible repeat (first|refine blk_drewN ?_ _|refine blk_drew ?_|refine blk_alloc ?_ _));exact BK573.out) hb);have n2_:=Aside0.mk (below_step (by repeat (first|(with_reducible first|exact HB.out|apply below_alloc|apply pw_below_drewN|apply below_drew1|refine below_set ?_ GE573.out)|exact HB.out)) hb);clear BK573;clear HB;have HO584:=n0_;have BK573:=n1_;have HB:=n2_;clear n0_ n1_ n2_;clear hb ho33;obtain ⟨Ao34,co34,eo34⟩:=Kd.R_slice HO584.out;subst eo34)|((with_reducible refine gate_callee (f:=57) rfl ?_);refine goesL_ (some 43) rfl rfl Try.func57 (by kernel_rfl) rfl #[.slice Ao34 y582.length co34] rfl (by (try simp only [List.map_toArray,List.map_cons,List.map_nil]);first|done|rfl|(simp only [List.length_drop,List.length_take];rfl)) ?_;(with_reducible refine (cmp_Or_int.calls kj4 _ _ y582 t585 _ ?side1 ?side2 A15.out).mono ?_);(case side1=>repeat (first|exact (Kd.R_reads' HO584.out).2.2|(with_reducible refine Kd.C_alloc ?_ _)|(with_reducible refine Kd.C_drewN ?_ _)|(with_reducible refine Kd.C_drew ?_)));(case side2=>exact (Kd.R_reads' HO584.out).2.1);rintro e w' ⟨rfl,⟨nd,rfl⟩⟩;refine ⟨_,rfl,?_⟩;have hcz35_0 : w32.cell? ⟨gb573,0,none⟩ = some (.int .i64 a0_0):=(blk_cell BK573.out 0).trans rfl;have hcz35_1 : w32.cell? ⟨gb573,1,none⟩ = some (.int .i64 a0_1):=(blk_cell BK573.out 1).trans rfl;have hcz35_2 : w32.cell? ⟨gb573,2,none⟩ = some (.int .i64 a0_2):=(blk_cell BK573.out 2).trans rfl;have hcz35_3 : w32.cell? ⟨gb573,3,none⟩ = some (.int .i64 a0_3):=(blk_cell BK573.out 3).trans rfl;have hcz35_4 : w32.cell? ⟨gb573,4,none⟩ = some (.int .i64 a0_4):=(blk_cell BK573.out 4).trans rfl;have hfz35_0:=blk_frozen BK573.out 0;have hfz35_1:=blk_frozen BK573.out 1;have hfz35_2:=blk_frozen BK573.out 2;have hfz35_3:=blk_frozen BK573.out 3;have hfz35_4:=blk_frozen BK573.out 4))
      go_ret
      exact ⟨by first|rfl|(simp [errW_none,errW_some] <;> rfl)|(simp [*,errW_none,errW_some] <;> rfl),by repeat (first|(with_reducible first|exact HB.out|apply below_alloc|apply pw_below_drewN|apply below_drew1|refine below_set ?_ GE573.out)|exact HB.out)⟩
     ·rw [if_neg c31] at H
      have c31b0 : (a0_0 == 2) = false:=beq_eq_false_iff_ne.mpr c31
      have c31b1 : (a0_0 != 2) = true:=bne_iff_ne.mpr c31
      obtain rfl:=Option.some.inj H
      go_wp2_with (first|((with_reducible refine gate_callee (f:=58) rfl ?_);refine goesL_ (some 38) rfl rfl Try.func58 (by kernel_rfl) rfl #[.int .i64 t574,.int .i64 t577] rfl (by (try simp only [List.map_toArray,List.map_cons,List.map_nil]);first|done|rfl|(simp only [List.length_drop,List.length_take];rfl)) ?_;(with_reducible refine (cmp_Compare_int.calls t574 t577 t580 _ A13.out).mono ?_);rintro e w' ⟨rfl,⟨nd,rfl⟩⟩;refine ⟨_,rfl,?_⟩)|((with_reducible refine gate_callee (f:=59) rfl ?_);refine goesL_ (some 41) rfl rfl Try.func59 (by kernel_rfl) rfl #[.int .u64 t575,.int .u64 t578] rfl (by (try simp only [List.map_toArray,List.map_cons,List.map_nil]);first|done|rfl|(simp only [List.length_drop,List.length_take];rfl)) ?_;(with_reducible refine (cmp_Compare_uint64.calls t575 t578 t581 _ A14.out).mono ?_);rintro e w' ⟨rfl,⟨nd,rfl⟩⟩;refine ⟨_,rfl,?_⟩)|((with_reducible refine gate_dst (N:=42) rfl ?_);refine Kd.R_lit (Kd.int .i64) _ 3 ?hg (N:=42) ?hd (xs:=([t580,t581] : List Int)) (inner:=[.int .i64 t580,.int .i64 t581]) (ok:=fun _=>True) (okp:=fun _=>True) ?hr ?hp (fun _ hk=>hk) trivial (Below.refl _ _) (Nat.le_refl _) (by simp) ?_;(case hd=>rfl);(case hg=>rfl);(case hr=>first|(go_simp;done)|(go_simp;rfl));(case hp=>exact (Reps.one (show Kd.M (Kd.int .i64) _ _ _ t580 [.int .i64 t580] from rfl) (Reps.one (show Kd.M (Kd.int .i64) _ _ _ t581 [.int .i64 t581] from rfl) (Reps.none _ _))));intro v583 w36 ho37 hb hg_ hnew_;clear hg_ hnew_;(first|rw [← Ny582.out] at ho37|(simp only [Int.reduceToNat] at ho37;rw [← Ny582.out] at ho37));have n0_:=Aside0.mk (Kd.R_lower ho37 (below_size (by repeat (first|(with_reducible first|exact HB.out|apply below_alloc|apply pw_below_drewN|apply below_drew1|refine below_set ?_ GE573.out)|exact HB.out))));have n1_:=Aside0.mk (blk_below (g:=gb573) (o:=.cells #[.int .i64 a0_0,.int .i64 a0_1,.int .i64 a0_2,.int .i64 a0_3,.int .i64 a0_4] 26 (0,0)) (by (with_reducible repeat (first|refine blk_drewN ?_ _|refine blk_drew ?_|refine blk_alloc ?_ _));exact BK573.out) hb);have n2_:=Aside0.mk (below_step (by repeat (first|(with_reducible first|exact HB.out|apply below_alloc|apply pw_below_drewN|apply below_drew1|refine below_set ?_ GE573.out)|exact HB.out)) hb);clear BK573;clear HB;have HO584:=n0_;have BK573:=n1_;have HB:=n2_;clear n0_ n1_ n2_;clear hb ho37;obtain ⟨Ao38,co38,eo38⟩:=Kd.R_slice HO584.out;subst eo38)|((with_reducible refine gate_callee (f:=57) rfl ?_);refine goesL_ (some 43) rfl rfl Try.func57 (by kernel_rfl) rfl #[.slice Ao38 y582.length co38] rfl (by (try simp only [List.map_toArray,List.map_cons,List.map_nil]);first|done|rfl|(simp only [List.length_drop,List.length_take];rfl)) ?_;(with_reducible refine (cmp_Or_int.calls kj4 _ _ y582 t585 _ ?side1 ?side2 A15.out).mono ?_);(case side1=>repeat (first|exact (Kd.R_reads' HO584.out).2.2|(with_reducible refine Kd.C_alloc ?_ _)|(with_reducible refine Kd.C_drewN ?_ _)|(with_reducible refine Kd.C_drew ?_)));(case side2=>exact (Kd.R_reads' HO584.out).2.1);rintro e w' ⟨rfl,⟨nd,rfl⟩⟩;refine ⟨_,rfl,?_⟩;have hcz39_0 : w36.cell? ⟨gb573,0,none⟩ = some (.int .i64 a0_0):=(blk_cell BK573.out 0).trans rfl;have hcz39_1 : w36.cell? ⟨gb573,1,none⟩ = some (.int .i64 a0_1):=(blk_cell BK573.out 1).trans rfl;have hcz39_2 : w36.cell? ⟨gb573,2,none⟩ = some (.int .i64 a0_2):=(blk_cell BK573.out 2).trans rfl;have hcz39_3 : w36.cell? ⟨gb573,3,none⟩ = some (.int .i64 a0_3):=(blk_cell BK573.out 3).trans rfl;have hcz39_4 : w36.cell? ⟨gb573,4,none⟩ = some (.int .i64 a0_4):=(blk_cell BK573.out 4).trans rfl;have hfz39_0:=blk_frozen BK573.out 0;have hfz39_1:=blk_frozen BK573.out 1;have hfz39_2:=blk_frozen BK573.out 2;have hfz39_3:=blk_frozen BK573.out 3;have hfz39_4:=blk_frozen BK573.out 4))
      go_ret
      exact ⟨by first|rfl|(simp [errW_none,errW_some] <;> rfl)|(simp [*,errW_none,errW_some] <;> rfl),by repeat (first|(with_reducible first|exact HB.out|apply below_alloc|apply pw_below_drewN|apply below_drew1|refine below_set ?_ GE573.out)|exact HB.out)⟩

end Go.Proofs.Yteebkkdbkkibmaa.Pr
