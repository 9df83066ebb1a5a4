/- Functions of this claim and what their calls compute, written by wip/tools/mp.py, a variant of the kit printer. Conditions: each theorem has its own. -/
import Derived.Test.YteebkkdbkkibmaaPr0
import Derived.Test.YteebkkdbkkibmaaPr15
namespace Go.Proofs.Yteebkkdbkkibmaa.Pr
open Go.RowKit Go.Proofs.YteebkkdbkkibmaaW.PrintWords Go.Proofs.YteebkkdbkkibmaaW.PrintLast Go.Proofs.YteebkkdbkkibmaaW.PrintMore
attribute [local go_sem] max2_int min2_int max_two min_two max_three min_three max_four min_four   -- for this text's walks alone
set_option linter.unusedVariables false
set_option linter.unusedSimpArgs false

/-! ### scarfjointref03_further: function 52 -/
mutual
def scarfjointref03_further.l0 : Nat → Int → List (S79) → List (List Int) → List (List Int) → Int → Option ((List (List Int)))
 | 0,_,_,_,_,_ => none
 | k + 1,x0,x1,x2,x7,x8 => if x8 < (x1.length : Int) then (if 0 ≤ x8 then (scarfjointref03_further.l1 k x0 x1 x2 x7 x8 0 ((rd_T79 x1 x8).f0.f0) ((rd_T79 x1 x8).f0.f1) ((rd_T79 x1 x8).f1) ((rd_T79 x1 x8).f2) ((rd_T79 x1 x8).f3)) else (none)) else (some x7)
def scarfjointref03_further.l1 : Nat → Int → List (S79) → List (List Int) → List (List Int) → Int → Int → Int → Int → Int → Int → Int → Option ((List (List Int)))
 | 0,_,_,_,_,_,_,_,_,_,_,_ => none
 | k + 1,x0,x1,x2,x7,x8,x10,x316000,x316001,x316002,x316003,x316004 => if x10 ≤ x0 then (if 0 ≤ x316003 then (if x316003 < (x2.length : Int) then (if 0 ≤ x10 then (if x10 < ((rd_L5 x2 x316003).length : Int) then (if (rd (rd_L5 x2 x316003) x10) < 1125899906842624 then (if 0 ≤ x316002 then (if x316002 < (x7.length : Int) then (if x10 < ((rd_L5 x7 x316002).length : Int) then (scarfjointref03_further.l1 k x0 x1 x2 (x7.set (x316002 : Int).toNat ((rd_L5 x7 x316002).set (x10 : Int).toNat (mn (rd (rd_L5 x7 x316002) x10) (wrap64 (x316004 + (rd (rd_L5 x2 x316003) x10)))))) x8 (wrap64 (x10 + 1)) x316000 x316001 x316002 x316003 x316004) else (none)) else (none)) else (none)) else (scarfjointref03_further.l1 k x0 x1 x2 x7 x8 (wrap64 (x10 + 1)) x316000 x316001 x316002 x316003 x316004)) else (none)) else (none)) else (none)) else (none)) else (scarfjointref03_further.l0 k x0 x1 x2 x7 (wrap64 (x8 + 1)))
end
def scarfjointref03_further.f (k : Nat) (a0 : Int) (l1 : List (S79)) (l2 : List (List Int)) : Option ((List (List Int))):=(scarfjointref03_square.f k a0 1125899906842624 1125899906842624).bind fun t311=>(scarfjointref03_further.l0 k a0 l1 l2 t311 0)
theorem scarfjointref03_further.mono_l : ∀ k,(∀ y0 y1 y2 y3 y4,LeO (scarfjointref03_further.l0 k y0 y1 y2 y3 y4) (scarfjointref03_further.l0 (k + 1) y0 y1 y2 y3 y4)) ∧ (∀ y0 y1 y2 y3 y4 y5 y6 y7 y8 y9 y10,LeO (scarfjointref03_further.l1 k y0 y1 y2 y3 y4 y5 y6 y7 y8 y9 y10) (scarfjointref03_further.l1 (k + 1) y0 y1 y2 y3 y4 y5 y6 y7 y8 y9 y10))
 | 0 => ⟨fun _ _ _ _ _ r h => by simp [scarfjointref03_further.l0] at h,fun _ _ _ _ _ _ _ _ _ _ _ r h => by simp [scarfjointref03_further.l1] at h⟩
 | k + 1 => by
  obtain ⟨ih0,ih1⟩:=scarfjointref03_further.mono_l k
  refine ⟨?_,?_⟩
  ·intro y0 y1 y2 y3 y4
   unfold scarfjointref03_further.l0
   repeat' first
   | (with_reducible exact ih0 _ _ _ _ _)
   | (with_reducible exact ih1 _ _ _ _ _ _ _ _ _ _ _)
   | (with_reducible exact scarfjointref03_square.mono _ _ _ _)
   | (with_reducible exact LeO.refl _)
   | (with_reducible exact LeO.none _)
   | (with_reducible refine LeO.ite ?_ ?_)
   | (with_reducible refine LeO.bind ?_ (fun _ => ?_))
   | exact ih0 _ _ _ _ _
   | exact ih1 _ _ _ _ _ _ _ _ _ _ _
   | exact scarfjointref03_square.mono _ _ _ _
   | exact LeO.none _
   | refine LeO.ite ?_ ?_
   | refine LeO.bind ?_ (fun _ => ?_)
  ·intro y0 y1 y2 y3 y4 y5 y6 y7 y8 y9 y10
   unfold scarfjointref03_further.l1
   repeat' first
   | (with_reducible exact ih0 _ _ _ _ _)
   | (with_reducible exact ih1 _ _ _ _ _ _ _ _ _ _ _)
   | (with_reducible exact scarfjointref03_square.mono _ _ _ _)
   | (with_reducible exact LeO.refl _)
   | (with_reducible exact LeO.none _)
   | (with_reducible refine LeO.ite ?_ ?_)
   | (with_reducible refine LeO.bind ?_ (fun _ => ?_))
   | exact ih0 _ _ _ _ _
   | exact ih1 _ _ _ _ _ _ _ _ _ _ _
   | exact scarfjointref03_square.mono _ _ _ _
   | exact LeO.none _
   | refine LeO.ite ?_ ?_
   | refine LeO.bind ?_ (fun _ => ?_)
theorem scarfjointref03_further.mono : ∀ a0 a1 a2 k,LeO (scarfjointref03_further.f k a0 a1 a2) (scarfjointref03_further.f (k + 1) a0 a1 a2):=by
 intro a0 a1 a2 k
 obtain ⟨ih0,ih1⟩:=scarfjointref03_further.mono_l k
 unfold scarfjointref03_further.f
 repeat' first
   | (with_reducible exact ih0 _ _ _ _ _)
   | (with_reducible exact ih1 _ _ _ _ _ _ _ _ _ _ _)
   | (with_reducible exact scarfjointref03_square.mono _ _ _ _)
   | (with_reducible exact LeO.refl _)
   | (with_reducible exact LeO.none _)
   | (with_reducible refine LeO.ite ?_ ?_)
   | (with_reducible refine LeO.bind ?_ (fun _ => ?_))
   | exact ih0 _ _ _ _ _
   | exact ih1 _ _ _ _ _ _ _ _ _ _ _
   | exact scarfjointref03_square.mono _ _ _ _
   | exact LeO.none _
   | refine LeO.ite ?_ ?_
   | refine LeO.bind ?_ (fun _ => ?_)
def scarfjointref03_further.T10 : Bool × List (List Nat × List Nat):=(true,[([],[]),([],[]),([1],[1]),([0,2],[0,2]),([3],[3]),([],[]),([],[]),([],[]),([7],[7]),([6,8],[6,8]),([9],[9]),([],[]),([10,11],[10,11]),([12],[12]),([],[]),([14],[14]),([],[]),([],[]),([17],[17]),([16,18],[16,18]),([19],[19]),([],[]),([20,21],[20,21]),([22],[22]),([15,23],[15,23]),([13,24],[13,24]),([4,5,0,1,2,3,4,5,6,7,8,9,10,11,12,13,14,15,16,17,18,19,20,21,22,23,24,25],[4,5]),([26,25,0,1,2,3,4,5,6,7,8,9,10,11,12,13,14,15,16,17,18,19,20,21,22,23,24,25],[25,26])])
def scarfjointref03_further.B10 : List Nat:=[0,0,2,7,15,0,0,0,128,448,960,0,4032,8128,0,16384,0,0,131072,458752,983040,0,4128768,8323072,16760832,33554368,67108863,134217727]
theorem scarfjointref03_further.tab10 : rtab .any (opsOf Try.f52 10) = scarfjointref03_further.T10:=by kernel_rfl
theorem scarfjointref03_further.bits10 : waitsOk scarfjointref03_further.T10.2 scarfjointref03_further.B10 = true:=by kernel_rfl
set_option maxHeartbeats 8000000 in
set_option maxRecDepth 100000 in
theorem scarfjointref03_further.calls (k : Nat) (a0 : Int) (A1 : Option Addr) (c1 : Nat) (l1 : List (S79)) (A2 : Option Addr) (c2 : Nat) (l2 : List (List Int)) (r : List (List Int)) (w : World) (hr1 : Kd.C k79 w A1 l1.length l1) (hc1 : l1.length ≤ c1) (hr2 : Kd.C (Kd.slice 3 (Kd.int .i64)) w A2 l2.length l2) (hc2 : l2.length ≤ c2) (h : scarfjointref03_further.f k a0 l1 l2 = some r) :
  Calls Try.prog 52 #[.int .i64 a0,.slice A1 l1.length c1,.slice A2 l2.length c2] w fun e w'=>∃ v0_ : Value,e = .returned (v0_) ∧ Kd.S (Kd.slice 3 (Kd.int .i64)) 36 w' w.heap.size (fun _=>True) v0_ r ∧ Below w.heap.size w w':=by
 have hu79:=Try.underlying79
 have HR1:=Aside0.mk hr1
 have HC1:=Aside0.mk hc1
 clear hr1 hc1
 have HR2:=Aside0.mk hr2
 have HC2:=Aside0.mk hc2
 clear hr2 hc2
 have HB:=Aside0.mk (Below.refl w.heap.size w)
 have H : ((scarfjointref03_square.f k a0 1125899906842624 1125899906842624).bind fun t311=>(scarfjointref03_further.l0 k a0 l1 l2 t311 0)) = some r:=h
 clear h
 replace H:=Option.bind_eq_some_iff.mp H
 obtain ⟨t311,A40,H⟩:=H
 replace H : (scarfjointref03_further.l0 k a0 l1 l2 t311 0) = some r:=H
 have A4:=Aside0.mk A40
 clear A40
 have H':=Aside0.mk H
 clear H
 go_enter Try.func52,Try.ntmps52
 go_wp2_with (first|((with_reducible refine gate_callee (f:=51) rfl ?_);refine goesL_ (some 12) rfl rfl Try.func51 (by kernel_rfl) rfl #[.int .i64 a0,.int .i64 1125899906842624,.int .i64 1125899906842624] rfl (by (try simp only [List.map_toArray,List.map_cons,List.map_nil]);first|done|rfl|(simp only [List.length_drop,List.length_take];rfl)) ?_;(with_reducible refine (scarfjointref03_square.calls k a0 1125899906842624 1125899906842624 t311 _ A4.out).mono ?_);rintro e w5 ⟨v312,rfl,ho0,hb⟩;refine ⟨_,rfl,?_⟩;have n0_:=Aside0.mk (Kd.S_lower ho0 (below_size (by repeat (first|(with_reducible first|exact HB.out|apply below_alloc|apply pw_below_drewN|apply below_drew1)|exact HB.out))));have n1_:=Aside0.mk (below_step (by repeat (first|(with_reducible first|exact HB.out|apply below_alloc|apply pw_below_drewN|apply below_drew1)|exact HB.out)) hb);clear HB;have HO313:=n0_;have HB:=n1_;clear n0_ n1_;(try clear hb);(try clear hb2);(try clear hk);(try clear hi);(try clear ho0)))
 go_loopg [8] k (fun kq v8 w'=>∃ (x7_1 : List (List Int)) (x8_1 : Int),v8 = .int .i64 x8_1 ∧ Aside0 (scarfjointref03_further.l0 kq a0 l1 l2 x7_1 x8_1 = some r) ∧ Aside0 (kq ≤ k) ∧ Aside0 (Kd.S (Kd.slice 3 (Kd.int .i64)) 36 w' w.heap.size (fun _=>True) v312 x7_1) ∧ Aside0 (Below w.heap.size w w'))
 case atStart=>exact ⟨(t311),(0),(by first|rfl|(simp;done)|(simp [*];done)),H',⟨Nat.le_refl _⟩,⟨by (with_reducible repeat (first|apply Kd.S_alloc|apply Kd.S_drewN|apply Kd.S_drew));exact HO313.out⟩,⟨by repeat (first|(with_reducible first|exact HB.out|apply below_alloc|apply pw_below_drewN|apply below_drew1)|exact HB.out)⟩⟩
 case round =>
  clear H'
  try clear c1
  try clear c2
  try clear p2
  try clear c5
  obtain ⟨x7_1,x8_1,rfl,HA,HK1,HO_7,HB⟩:=hrel
  cases gk with
  | zero => exact absurd HA.out (by simp [scarfjointref03_further.l0])
  | succ k1 =>
   have H:=HA.out
   clear HA
   simp only [scarfjointref03_further.l0] at H
   by_cases c6 : x8_1 < (l1.length : Int)
   ·rw [if_pos c6] at H
    have c6b0 : decide (x8_1 < (l1.length : Int)) = true:=decide_eq_true c6
    clear c6
    by_cases c7 : 0 ≤ x8_1
    ·rw [if_pos c7] at H
     have c7b0 : decide (0 ≤ x8_1) = true:=decide_eq_true c7
     clear c7
     have H':=Aside0.mk H
     clear H
     have p314 : 0 ≤ (x8_1 : Int):=of_decide_eq_true (by first|(with_reducible assumption)|assumption)
     have q314 : x8_1 < (l1.length : Int):=of_decide_eq_true (by first|(with_reducible assumption)|assumption)
     obtain ⟨ad314,e314,hx314_0,hx314_1,hx314_2,hx314_3,hx314_4⟩:=at_T79 HR1.out x8_1 p314 q314
     cases e314
     replace hx314_0:=(HB.out.cell (World.block_lt_of_cell? w _ hx314_0)).trans hx314_0
     replace hx314_1:=(HB.out.cell (World.block_lt_of_cell? w _ hx314_1)).trans hx314_1
     replace hx314_2:=(HB.out.cell (World.block_lt_of_cell? w _ hx314_2)).trans hx314_2
     replace hx314_3:=(HB.out.cell (World.block_lt_of_cell? w _ hx314_3)).trans hx314_3
     replace hx314_4:=(HB.out.cell (World.block_lt_of_cell? w _ hx314_4)).trans hx314_4
     replace p314:=eq_true p314
     replace q314:=eq_true q314
     go_wp2_with (first|((with_reducible refine gate_dst (N:=9) rfl ?_);refine box_event ?hg (N:=9) ?hd (cs:=#[.int .i64 0,.int .i64 0,.int .i64 0,.int .i64 0,.int .i64 0]) (t:=79) ?hr ?_;(case hd=>rfl);(case hg=>rfl);(case hr=>first|(go_simp;done)|(go_simp;rfl));intro gb315 hg w8 hbox hb;have n0_:=Aside0.mk (Kd.S_below (by (with_reducible repeat (first|apply Kd.S_alloc|apply Kd.S_drewN|apply Kd.S_drew));exact HO_7.out) hb);have n1_:=Aside0.mk (below_step (by repeat (first|(with_reducible first|exact HB.out|apply below_alloc|apply pw_below_drewN|apply below_drew1)|exact HB.out)) hb);have n2_:=Aside0.mk (hbox);have n3_:=Aside0.mk ((by rw [hg];exact (below_size (by repeat (first|(with_reducible first|exact HB.out|apply below_alloc|apply pw_below_drewN|apply below_drew1)|exact HB.out))) : w.heap.size ≤ gb315));have n4_:=Aside0.mk ((by rw [hg];exact (below_size (by repeat (first|(with_reducible first|exact HB.out|apply below_alloc|apply pw_below_drewN|apply below_drew1)|exact HB.out))) : w.heap.size ≤ gb315));clear HO_7;clear HB;have HO_7:=n0_;have HB:=n1_;have BK315:=n2_;have GW315:=n3_;have GE315:=n4_;clear n0_ n1_ n2_ n3_ n4_;clear hb hbox hg;have hcz9_0 : w8.cell? ⟨gb315,0,none⟩ = some (.int .i64 0):=(blk_cell BK315.out 0).trans rfl;have hcz9_1 : w8.cell? ⟨gb315,1,none⟩ = some (.int .i64 0):=(blk_cell BK315.out 1).trans rfl;have hcz9_2 : w8.cell? ⟨gb315,2,none⟩ = some (.int .i64 0):=(blk_cell BK315.out 2).trans rfl;have hcz9_3 : w8.cell? ⟨gb315,3,none⟩ = some (.int .i64 0):=(blk_cell BK315.out 3).trans rfl;have hcz9_4 : w8.cell? ⟨gb315,4,none⟩ = some (.int .i64 0):=(blk_cell BK315.out 4).trans rfl;have hfz9_0:=blk_frozen BK315.out 0;have hfz9_1:=blk_frozen BK315.out 1;have hfz9_2:=blk_frozen BK315.out 2;have hfz9_3:=blk_frozen BK315.out 3;have hfz9_4:=blk_frozen BK315.out 4))
     go_loopg [10] k1 (fun kq v10 w'=>∃ (x7_2 : List (List Int)) (x10_2 : Int),v10 = .int .i64 x10_2 ∧ Aside0 (scarfjointref03_further.l1 kq a0 l1 l2 x7_2 x8_1 x10_2 ((rd_T79 l1 x8_1).f0.f0) ((rd_T79 l1 x8_1).f0.f1) ((rd_T79 l1 x8_1).f1) ((rd_T79 l1 x8_1).f2) ((rd_T79 l1 x8_1).f3) = some r) ∧ Aside0 (kq ≤ k1) ∧ Aside0 (Kd.S (Kd.slice 3 (Kd.int .i64)) 36 w' w.heap.size (fun _=>True) v312 x7_2) ∧ Aside0 (w'.heap[gb315]? = some (.cells #[.int .i64 ((rd_T79 l1 x8_1).f0.f0),.int .i64 ((rd_T79 l1 x8_1).f0.f1),.int .i64 ((rd_T79 l1 x8_1).f1),.int .i64 ((rd_T79 l1 x8_1).f2),.int .i64 ((rd_T79 l1 x8_1).f3)] 79 (0,0))) ∧ Aside0 (Below w.heap.size w w'))
     case atStart=>exact ⟨(x7_1),(0),(by first|rfl|(simp;done)|(simp [*];done)),H',⟨Nat.le_refl _⟩,⟨by (with_reducible repeat (first|apply Kd.S_alloc|apply Kd.S_drewN|apply Kd.S_drew));exact Kd.S_mono (Kd.S_far (p:=⟨gb315,4,none⟩) (Kd.S_far (p:=⟨gb315,3,none⟩) (Kd.S_far (p:=⟨gb315,2,none⟩) (Kd.S_far (p:=⟨gb315,1,none⟩) (Kd.S_far (p:=⟨gb315,0,none⟩) (Kd.S_types HO_7.out BK315.out (by decide)) (fun _ hk=>hk.2) (.int .i64 ((rd_T79 l1 x8_1).f0.f0))) (fun _ hk=>hk.2) (.int .i64 ((rd_T79 l1 x8_1).f0.f1))) (fun _ hk=>hk.2) (.int .i64 ((rd_T79 l1 x8_1).f1))) (fun _ hk=>hk.2) (.int .i64 ((rd_T79 l1 x8_1).f2))) (fun _ hk=>hk.2) (.int .i64 ((rd_T79 l1 x8_1).f3))) (fun _ hk=>trivial)⟩,⟨by (with_reducible repeat (first|refine blk_drewN ?_ _|refine blk_drew ?_|refine blk_alloc ?_ _));refine blk_put (cs:=#[.int .i64 ((rd_T79 l1 x8_1).f0.f0),.int .i64 ((rd_T79 l1 x8_1).f0.f1),.int .i64 ((rd_T79 l1 x8_1).f1),.int .i64 ((rd_T79 l1 x8_1).f2),.int .i64 0]) ?_ 4 _ rfl;(with_reducible repeat (first|refine blk_drewN ?_ _|refine blk_drew ?_|refine blk_alloc ?_ _));refine blk_put (cs:=#[.int .i64 ((rd_T79 l1 x8_1).f0.f0),.int .i64 ((rd_T79 l1 x8_1).f0.f1),.int .i64 ((rd_T79 l1 x8_1).f1),.int .i64 0,.int .i64 0]) ?_ 3 _ rfl;(with_reducible repeat (first|refine blk_drewN ?_ _|refine blk_drew ?_|refine blk_alloc ?_ _));refine blk_put (cs:=#[.int .i64 ((rd_T79 l1 x8_1).f0.f0),.int .i64 ((rd_T79 l1 x8_1).f0.f1),.int .i64 0,.int .i64 0,.int .i64 0]) ?_ 2 _ rfl;(with_reducible repeat (first|refine blk_drewN ?_ _|refine blk_drew ?_|refine blk_alloc ?_ _));refine blk_put (cs:=#[.int .i64 ((rd_T79 l1 x8_1).f0.f0),.int .i64 0,.int .i64 0,.int .i64 0,.int .i64 0]) ?_ 1 _ rfl;(with_reducible repeat (first|refine blk_drewN ?_ _|refine blk_drew ?_|refine blk_alloc ?_ _));refine blk_put (cs:=#[.int .i64 0,.int .i64 0,.int .i64 0,.int .i64 0,.int .i64 0]) ?_ 0 _ rfl;(with_reducible repeat (first|refine blk_drewN ?_ _|refine blk_drew ?_|refine blk_alloc ?_ _));exact BK315.out⟩,⟨by repeat (first|(with_reducible first|exact HB.out|apply below_alloc|apply pw_below_drewN|apply below_drew1|refine below_set ?_ GE315.out)|exact HB.out)⟩⟩
     case round =>
      clear H'
      try clear c1
      try clear c2
      try clear p2
      try clear p3
      try clear q3
      try clear hx3
      try clear c5
      try clear c6
      try clear c6b0
      try clear c7
      try clear c7b0
      try clear hcz9_0
      try clear hcz9_1
      try clear hcz9_2
      try clear hcz9_3
      try clear hcz9_4
      try clear hfz9_0
      try clear hfz9_1
      try clear hfz9_2
      try clear hfz9_3
      try clear hfz9_4
      try clear hx314_0
      try clear hx314_1
      try clear hx314_2
      try clear hx314_3
      try clear hx314_4
      try clear p2
      try clear p314
      try clear q314
      obtain ⟨x7_2,x10_2,rfl,HA,HK2,HO_7,BK315,HB⟩:=hrel
      cases gk with
      | zero => exact absurd HA.out (by simp [scarfjointref03_further.l1])
      | succ k2 =>
       have H:=HA.out
       clear HA
       simp only [scarfjointref03_further.l1] at H
       by_cases c10 : x10_2 ≤ a0
       ·rw [if_pos c10] at H
        have c10b0 : decide (x10_2 ≤ a0) = true:=decide_eq_true c10
        clear c10
        by_cases c11 : 0 ≤ ((rd_T79 l1 x8_1).f2)
        ·rw [if_pos c11] at H
         have c11b0 : decide (0 ≤ ((rd_T79 l1 x8_1).f2)) = true:=decide_eq_true c11
         clear c11
         by_cases c12 : ((rd_T79 l1 x8_1).f2) < (l2.length : Int)
         ·rw [if_pos c12] at H
          have c12b0 : decide (((rd_T79 l1 x8_1).f2) < (l2.length : Int)) = true:=decide_eq_true c12
          clear c12
          by_cases c13 : 0 ≤ x10_2
          ·rw [if_pos c13] at H
           have c13b0 : decide (0 ≤ x10_2) = true:=decide_eq_true c13
           clear c13
           by_cases c14 : x10_2 < ((rd_L5 l2 ((rd_T79 l1 x8_1).f2)).length : Int)
           ·rw [if_pos c14] at H
            have c14b0 : decide (x10_2 < ((rd_L5 l2 ((rd_T79 l1 x8_1).f2)).length : Int)) = true:=decide_eq_true c14
            clear c14
            by_cases c15 : (rd (rd_L5 l2 ((rd_T79 l1 x8_1).f2)) x10_2) < 1125899906842624
            ·rw [if_pos c15] at H
             have c15b0 : decide ((rd (rd_L5 l2 ((rd_T79 l1 x8_1).f2)) x10_2) < 1125899906842624) = true:=decide_eq_true c15
             clear c15
             by_cases c16 : 0 ≤ ((rd_T79 l1 x8_1).f1)
             ·rw [if_pos c16] at H
              have c16b0 : decide (0 ≤ ((rd_T79 l1 x8_1).f1)) = true:=decide_eq_true c16
              clear c16
              by_cases c17 : ((rd_T79 l1 x8_1).f1) < (x7_2.length : Int)
              ·rw [if_pos c17] at H
               have c17b0 : decide (((rd_T79 l1 x8_1).f1) < (x7_2.length : Int)) = true:=decide_eq_true c17
               clear c17
               by_cases c18 : x10_2 < ((rd_L5 x7_2 ((rd_T79 l1 x8_1).f1)).length : Int)
               ·rw [if_pos c18] at H
                have c18b0 : decide (x10_2 < ((rd_L5 x7_2 ((rd_T79 l1 x8_1).f1)).length : Int)) = true:=decide_eq_true c18
                clear c18
                obtain ⟨ji19,hji19⟩ : ∃ j_ : Int,(mn (rd (rd_L5 x7_2 ((rd_T79 l1 x8_1).f1)) x10_2) (wrap64 (((rd_T79 l1 x8_1).f3) + (rd (rd_L5 l2 ((rd_T79 l1 x8_1).f2)) x10_2)))) = j_:=⟨_,rfl⟩
                replace H : (scarfjointref03_further.l1 k2 a0 l1 l2 (x7_2.set (((rd_T79 l1 x8_1).f1) : Int).toNat ((rd_L5 x7_2 ((rd_T79 l1 x8_1).f1)).set (x10_2 : Int).toNat (ji19))) x8_1 (wrap64 (x10_2 + 1)) ((rd_T79 l1 x8_1).f0.f0) ((rd_T79 l1 x8_1).f0.f1) ((rd_T79 l1 x8_1).f1) ((rd_T79 l1 x8_1).f2) ((rd_T79 l1 x8_1).f3)) = some r:=by first|(rw [hji19] at H;exact H)|(simp only [hji19] at H ⊢;exact H)
                have hji19_ : (if (wrap64 (((rd_T79 l1 x8_1).f3) + (rd (rd_L5 l2 ((rd_T79 l1 x8_1).f2)) x10_2))) < (rd (rd_L5 x7_2 ((rd_T79 l1 x8_1).f1)) x10_2) then (wrap64 (((rd_T79 l1 x8_1).f3) + (rd (rd_L5 l2 ((rd_T79 l1 x8_1).f2)) x10_2))) else (rd (rd_L5 x7_2 ((rd_T79 l1 x8_1).f1)) x10_2)) = ji19:=hji19
                obtain ⟨y323,hy323⟩ : ∃ y_ : List Int,y_ = ((rd_L5 x7_2 ((rd_T79 l1 x8_1).f1)).set (x10_2 : Int).toNat (ji19)):=⟨_,rfl⟩
                replace H : (scarfjointref03_further.l1 k2 a0 l1 l2 (x7_2.set (((rd_T79 l1 x8_1).f1) : Int).toNat y323) x8_1 (wrap64 (x10_2 + 1)) ((rd_T79 l1 x8_1).f0.f0) ((rd_T79 l1 x8_1).f0.f1) ((rd_T79 l1 x8_1).f1) ((rd_T79 l1 x8_1).f2) ((rd_T79 l1 x8_1).f3)) = some r:=by first|(rw [hy323];with_reducible exact H)|(have H2_:=(Option.bind_some _ _).symm.trans H;rw [hy323];with_reducible exact H2_)|(have H2_:=(Option.bind_some _ _).symm.trans H;with_reducible exact H2_)|with_reducible exact H|(rw [hy323];exact H)|exact H
                have Ny323:=Aside0.mk hy323
                clear hy323
                obtain ⟨y325,hy325⟩ : ∃ y_ : List (List Int),y_ = (x7_2.set (((rd_T79 l1 x8_1).f1) : Int).toNat y323):=⟨_,rfl⟩
                replace H : (scarfjointref03_further.l1 k2 a0 l1 l2 y325 x8_1 (wrap64 (x10_2 + 1)) ((rd_T79 l1 x8_1).f0.f0) ((rd_T79 l1 x8_1).f0.f1) ((rd_T79 l1 x8_1).f1) ((rd_T79 l1 x8_1).f2) ((rd_T79 l1 x8_1).f3)) = some r:=by first|(rw [hy325];with_reducible exact H)|(have H2_:=(Option.bind_some _ _).symm.trans H;rw [hy325];with_reducible exact H2_)|(have H2_:=(Option.bind_some _ _).symm.trans H;with_reducible exact H2_)|with_reducible exact H|(rw [hy325];exact H)|exact H
                have Ny325:=Aside0.mk hy325
                clear hy325
                have H':=Aside0.mk H
                clear H
                have hcz21_0 : wr.cell? ⟨gb315,0,none⟩ = some (.int .i64 ((rd_T79 l1 x8_1).f0.f0)):=(blk_cell BK315.out 0).trans rfl
                have hcz21_1 : wr.cell? ⟨gb315,1,none⟩ = some (.int .i64 ((rd_T79 l1 x8_1).f0.f1)):=(blk_cell BK315.out 1).trans rfl
                have hcz21_2 : wr.cell? ⟨gb315,2,none⟩ = some (.int .i64 ((rd_T79 l1 x8_1).f1)):=(blk_cell BK315.out 2).trans rfl
                have hcz21_3 : wr.cell? ⟨gb315,3,none⟩ = some (.int .i64 ((rd_T79 l1 x8_1).f2)):=(blk_cell BK315.out 3).trans rfl
                have hcz21_4 : wr.cell? ⟨gb315,4,none⟩ = some (.int .i64 ((rd_T79 l1 x8_1).f3)):=(blk_cell BK315.out 4).trans rfl
                have hfz21_0:=blk_frozen BK315.out 0
                have hfz21_1:=blk_frozen BK315.out 1
                have hfz21_2:=blk_frozen BK315.out 2
                have hfz21_3:=blk_frozen BK315.out 3
                have hfz21_4:=blk_frozen BK315.out 4
                have p316 : 0 ≤ (((rd_T79 l1 x8_1).f2) : Int):=of_decide_eq_true (by first|(with_reducible assumption)|assumption)
                have q316 : ((rd_T79 l1 x8_1).f2) < (l2.length : Int):=of_decide_eq_true (by first|(with_reducible assumption)|assumption)
                obtain ⟨ad316,A316_0,c316_0,e316,hx316_0,hl316_0,hi316_0⟩:=at_L5 HR2.out ((rd_T79 l1 x8_1).f2) p316 q316
                cases e316
                replace hx316_0:=(HB.out.cell (World.block_lt_of_cell? w _ hx316_0)).trans hx316_0
                have HR316_0:=Aside0.mk hi316_0
                have HC316_0:=Aside0.mk hl316_0
                clear hi316_0 hl316_0
                replace p316:=eq_true p316
                replace q316:=eq_true q316
                have p317 : 0 ≤ (x10_2 : Int):=of_decide_eq_true (by first|(with_reducible assumption)|assumption)
                have q317 : x10_2 < ((rd_L5 l2 ((rd_T79 l1 x8_1).f2)).length : Int):=of_decide_eq_true (by first|(with_reducible assumption)|assumption)
                obtain ⟨ad317,e317,hx317_0⟩:=Kd.at_int HR316_0.out x10_2 p317 q317
                cases e317
                replace hx317_0:=(HB.out.cell (World.block_lt_of_cell? w _ hx317_0)).trans hx317_0
                replace p317:=eq_true p317
                replace q317:=eq_true q317
                try go_wp2
                have n0_:=Aside0.mk (Kd.S_drew HO_7.out)
                have n1_:=Aside0.mk (blk_drew BK315.out)
                have n2_:=Aside0.mk (below_drew1 HB.out)
                clear HO_7
                clear BK315
                clear HB
                have HO_7:=n0_
                have BK315:=n1_
                have HB:=n2_
                clear n0_ n1_ n2_
                obtain ⟨Ao23,co23,eo23⟩:=Kd.S_slice HO_7.out
                (first|subst eo23|(injection eo23 with f1_ f2_ f3_;have f4_:=f1_.symm;have f5_:=f3_.symm;clear f1_ f2_ f3_;subst f4_;subst f5_))
                have p318 : 0 ≤ (((rd_T79 l1 x8_1).f1) : Int):=of_decide_eq_true (by first|(with_reducible assumption)|assumption)
                have q318 : ((rd_T79 l1 x8_1).f1) < (x7_2.length : Int):=of_decide_eq_true (by first|(with_reducible assumption)|assumption)
                obtain ⟨ad318,A318_0,c318_0,e318,hx318_0,hl318_0,hi318_0⟩:=at_L5 (Kd.S_reads' HO_7.out).2.2 ((rd_T79 l1 x8_1).f1) p318 q318
                cases e318
                obtain ⟨ce318,hce318,hMe318,hcc318⟩:=Kd.S_get HO_7.out [] ((rd_T79 l1 x8_1).f1) p318 (by first|exact q318|exact of_decide_eq_true (by first|(with_reducible assumption)|assumption)|(have e_:=(Kd.S_reads' HO_7.out).1;omega))
                obtain ⟨ve318_0,rfl,ge318_0⟩:=hMe318
                have hv318_0:=hcc318 0 _ rfl
                rw [Nat.add_zero,show ((Kd.slice 3 (Kd.int .i64))).sz = 1 from rfl,Nat.mul_one] at hv318_0
                replace hv318_0:=Option.some.inj (hv318_0.symm.trans hx318_0)
                rw [hv318_0] at ge318_0
                have HL318_0:=Aside0.mk (show Kd.R (Kd.int .i64) 3 _ _ _ _ (rd_L5 x7_2 ((rd_T79 l1 x8_1).f1)) from ge318_0)
                clear hv318_0 ge318_0
                have HX318_0:=Aside0.mk hx318_0
                clear hcc318 hce318
                have HR318_0:=Aside0.mk hi318_0
                have HC318_0:=Aside0.mk hl318_0
                clear hi318_0 hl318_0
                replace p318:=eq_true p318
                replace q318:=eq_true q318
                have p319 : 0 ≤ (((rd_T79 l1 x8_1).f1) : Int):=of_decide_eq_true (by first|(with_reducible assumption)|assumption)
                have q319 : ((rd_T79 l1 x8_1).f1) < (x7_2.length : Int):=of_decide_eq_true (by first|(with_reducible assumption)|assumption)
                obtain ⟨ad319,A319_0,c319_0,e319,hx319_0,hl319_0,hi319_0⟩:=at_L5 (Kd.S_reads' HO_7.out).2.2 ((rd_T79 l1 x8_1).f1) p319 q319
                obtain rfl : ad318 = ad319:=(by injection e319)
                obtain ⟨ce319,hce319,hMe319,hcc319⟩:=Kd.S_get HO_7.out [] ((rd_T79 l1 x8_1).f1) p319 (by first|exact q319|exact of_decide_eq_true (by first|(with_reducible assumption)|assumption)|(have e_:=(Kd.S_reads' HO_7.out).1;omega))
                obtain ⟨ve319_0,rfl,ge319_0⟩:=hMe319
                have hv319_0:=hcc319 0 _ rfl
                rw [Nat.add_zero,show ((Kd.slice 3 (Kd.int .i64))).sz = 1 from rfl,Nat.mul_one] at hv319_0
                replace hv319_0:=Option.some.inj (hv319_0.symm.trans hx319_0)
                rw [hv319_0] at ge319_0
                have HL319_0:=Aside0.mk (show Kd.R (Kd.int .i64) 3 _ _ _ _ (rd_L5 x7_2 ((rd_T79 l1 x8_1).f1)) from ge319_0)
                clear hv319_0 ge319_0
                have HX319_0:=Aside0.mk hx319_0
                clear hcc319 hce319
                have HR319_0:=Aside0.mk hi319_0
                have HC319_0:=Aside0.mk hl319_0
                clear hi319_0 hl319_0
                replace p319:=eq_true p319
                replace q319:=eq_true q319
                have ea_:=Option.some.inj (hx318_0.symm.trans hx319_0)
                injection ea_ with ea_ en_ ec_
                subst ea_
                subst ec_
                clear en_
                have p320 : 0 ≤ (x10_2 : Int):=of_decide_eq_true (by first|(with_reducible assumption)|assumption)
                have q320 : x10_2 < ((rd_L5 x7_2 ((rd_T79 l1 x8_1).f1)).length : Int):=of_decide_eq_true (by first|(with_reducible assumption)|assumption)
                obtain ⟨ad320,e320,hx320_0⟩:=Kd.at_int (by repeat (first|(with_reducible exact HR319_0.out)|(with_reducible refine Kd.C_alloc ?_ _)|(with_reducible refine Kd.C_drewN ?_ _)|(with_reducible refine Kd.C_drew ?_)|exact HR319_0.out)) x10_2 p320 q320
                cases e320
                replace p320:=eq_true p320
                replace q320:=eq_true q320
                have p321 : 0 ≤ (((rd_T79 l1 x8_1).f2) : Int):=of_decide_eq_true (by first|(with_reducible assumption)|assumption)
                have q321 : ((rd_T79 l1 x8_1).f2) < (l2.length : Int):=of_decide_eq_true (by first|(with_reducible assumption)|assumption)
                obtain ⟨ad321,A321_0,c321_0,e321,hx321_0,hl321_0,hi321_0⟩:=at_L5 HR2.out ((rd_T79 l1 x8_1).f2) p321 q321
                have hw321_0:=hx321_0
                obtain rfl : ad316 = ad321:=(by injection e321)
                replace hx321_0:=(HB.out.cell (World.block_lt_of_cell? w _ hx321_0)).trans hx321_0
                have HR321_0:=Aside0.mk hi321_0
                have HC321_0:=Aside0.mk hl321_0
                clear hi321_0 hl321_0
                replace p321:=eq_true p321
                replace q321:=eq_true q321
                have p322 : 0 ≤ (x10_2 : Int):=of_decide_eq_true (by first|(with_reducible assumption)|assumption)
                have q322 : x10_2 < ((rd_L5 l2 ((rd_T79 l1 x8_1).f2)).length : Int):=of_decide_eq_true (by first|(with_reducible assumption)|assumption)
                obtain ⟨ad322,e322,hx322_0⟩:=Kd.at_int HR321_0.out x10_2 p322 q322
                have hw322_0:=hx322_0
                cases e322
                replace hx322_0:=(HB.out.cell (World.block_lt_of_cell? w _ hx322_0)).trans hx322_0
                replace p322:=eq_true p322
                replace q322:=eq_true q322
                have p20 : 0 ≤ (x10_2 : Int):=of_decide_eq_true (by first|(with_reducible assumption)|assumption)
                have q20 : (x10_2 : Int) < (((rd_L5 x7_2 ((rd_T79 l1 x8_1).f1)).length : Int) : Int):=of_decide_eq_true (by first|(with_reducible assumption)|assumption)
                obtain ⟨go20,co20,eo20,gb20,gl20,cl20,HG20⟩:=Kd.R_form HL318_0.out (by omega)
                (first|cases eo20|(injection eo20 with ea_ en_ ec_;(first|subst ea_|(injection ea_ with ea_;subst ea_));subst ec_;clear en_))
                have GB20:=Aside0.mk gb20
                have GG20:=Aside0.mk HG20
                clear gb20 gl20 HG20
                (first|simp only [add_plain] at hx320_0|skip)
                obtain ⟨hx20_0,hf20_0⟩:=Kd.R_celln 0 HL318_0.out (x10_2 : Int) p20 q20
                replace p20:=eq_true p20
                replace q20:=eq_true q20
                have hq24 : (((rd_T79 l1 x8_1).f1) : Int) < (x7_2.length : Int):=(by have h_ : (((rd_T79 l1 x8_1).f1) : Int) < ((x7_2.length : Int) : Int):=of_decide_eq_true (by first|(with_reducible assumption)|assumption);first|exact h_|(have e_:=(Kd.S_reads' HO_7.out).1;omega)|simpa only [List.length_set,List.length_set] using h_)
                obtain ⟨oki24,ce24,hcl24,hM24,hcc24,hok24,hbk24⟩:=Kd.S_borrow HO_7.out [] (((rd_T79 l1 x8_1).f1) : Int) (of_decide_eq_true (by first|(with_reducible assumption)|assumption)) hq24
                obtain ⟨ve24_0,rfl,ge24_0⟩:=hM24
                have hv24:=hcc24 0 _ rfl
                rw [Nat.add_zero,show ((Kd.slice 3 (Kd.int .i64))).sz = 1 from rfl,Nat.mul_one] at hv24
                replace hv24:=Option.some.inj (hv24.symm.trans HX318_0.out)
                subst hv24
                clear hcc24 hcl24
                replace ge24_0:=(show Kd.R (Kd.int .i64) 3 _ _ _ _ (rd_L5 x7_2 ((rd_T79 l1 x8_1).f1)) from ge24_0)
                have HP24:=Kd.R_putg ge24_0 (x10_2 : Int) ji19
                rw [← Ny323.out] at HP24
                have HS24:=hbk24 HP24.2 (fun k_ e_=>by injection e_ with e_;subst e_;exact ge24_0.1 _ rfl) (x':=y323) (Kd.M_row HP24.1)
                rw [← Ny325.out] at HS24
                have HQ24:=Aside0.mk HS24
                clear HP24 HS24 hbk24 hok24
                refine start_ (n:=28) (S:=fun w'=>w'.cell? ⟨gb315,0,none⟩ = some (.int .i64 ((rd_T79 l1 x8_1).f0.f0)) ∧ w'.cell? ⟨gb315,1,none⟩ = some (.int .i64 ((rd_T79 l1 x8_1).f0.f1)) ∧ w'.cell? ⟨gb315,2,none⟩ = some (.int .i64 ((rd_T79 l1 x8_1).f1)) ∧ w'.cell? ⟨gb315,3,none⟩ = some (.int .i64 ((rd_T79 l1 x8_1).f2)) ∧ w'.cell? ⟨gb315,4,none⟩ = some (.int .i64 ((rd_T79 l1 x8_1).f3)) ∧ w'.cell? (ad318.add (((rd_T79 l1 x8_1).f1)).toNat) = some (.slice (some ⟨go20,0,none⟩) (rd_L5 x7_2 ((rd_T79 l1 x8_1).f1)).length c318_0) ∧ w'.cell? (ad318.add (((rd_T79 l1 x8_1).f1)).toNat) = some (.slice (some ⟨go20,0,none⟩) (rd_L5 x7_2 ((rd_T79 l1 x8_1).f1)).length c318_0) ∧ w'.cell? ⟨go20,(x10_2).toNat,none⟩ = some (.int .i64 (rd (rd_L5 x7_2 ((rd_T79 l1 x8_1).f1)) x10_2)) ∧ w'.cell? (ad316.add (((rd_T79 l1 x8_1).f2)).toNat) = some (.slice (some ad322) (rd_L5 l2 ((rd_T79 l1 x8_1).f2)).length c321_0) ∧ w'.cell? (ad322.add (x10_2).toNat) = some (.int .i64 (rd (rd_L5 l2 ((rd_T79 l1 x8_1).f2)) x10_2))) (ds:=[27]) #[false,false,false,false,false,false,false,false,false,false,false,false,false,false,false,false,false,false,false,false,false,false,false,false,false,false,false,false] (by kernel_rfl) rfl rfl ⟨(blk_cell BK315.out 0).trans rfl,(blk_cell BK315.out 1).trans rfl,(blk_cell BK315.out 2).trans rfl,(blk_cell BK315.out 3).trans rfl,(blk_cell BK315.out 4).trans rfl,hx318_0,hx319_0,hx320_0,((HB.out.cell (World.block_lt_of_cell? w _ hw321_0)).trans hw321_0),((HB.out.cell (World.block_lt_of_cell? w _ hw322_0)).trans hw322_0)⟩ (fun hHeld=>?_);refine with_tabW scarfjointref03_further.tab10 scarfjointref03_further.bits10 (fun HT_ HW_=>?_)
                generalize wr.drew = w22 at HO_7 BK315 HB GG20 HL318_0 HL319_0 HQ24 HR318_0 HR319_0 HR321_0 HX318_0 HX319_0 hf20_0 hx20_0 hx318_0 hx319_0 hx320_0 hx321_0 hx322_0 hHeld ⊢
                refine pure_ (i:=0) (N:=some 37) (v:=?_) (a':=?_) #[true,false,false,false,false,false,false,false,false,false,false,false,false,false,false,false,false,false,false,false,false,false,false,false,false,false,false,false] rfl rfl (any_of HT_.out (by kernel_rfl)) (fun _ _ _ h=>h) (Or.inl ⟨by rfl,?_⟩) ?_ ?_
                rotate_left
                ·intro w'
                 go_simp
                 with_reducible rfl
                rotate_left
                ·simp only [Act.put,List.setIfInBounds_toArray,List.set_cons_zero,List.set_cons_succ,i64_w,i32_w]
                 rfl
                refine pure_ (i:=1) (N:=some 38) (v:=?_) (a':=?_) #[true,true,false,false,false,false,false,false,false,false,false,false,false,false,false,false,false,false,false,false,false,false,false,false,false,false,false,false] rfl rfl (any_of HT_.out (by kernel_rfl)) (fun _ _ _ h=>h) (Or.inl ⟨by rfl,?_⟩) ?_ ?_
                rotate_left
                ·intro w'
                 go_simp
                 with_reducible rfl
                rotate_left
                ·simp only [Act.put,List.setIfInBounds_toArray,List.set_cons_zero,List.set_cons_succ,i64_w,i32_w]
                 rfl
                refine pure_ (i:=5) (N:=some 42) (v:=?_) (a':=?_) #[true,true,false,false,false,true,false,false,false,false,false,false,false,false,false,false,false,false,false,false,false,false,false,false,false,false,false,false] rfl rfl (any_of HT_.out (by kernel_rfl)) (fun _ _ _ h=>h) (Or.inl ⟨by rfl,?_⟩) ?_ ?_
                rotate_left
                ·intro w'
                 go_simp
                 with_reducible rfl
                rotate_left
                ·simp only [Act.put,List.setIfInBounds_toArray,List.set_cons_zero,List.set_cons_succ,i64_w,i32_w]
                 rfl
                refine pure_ (i:=6) (N:=some 43) (v:=?_) (a':=?_) #[true,true,false,false,false,true,true,false,false,false,false,false,false,false,false,false,false,false,false,false,false,false,false,false,false,false,false,false] rfl rfl (any_of HT_.out (by kernel_rfl)) (fun _ _ _ h=>h) (Or.inl ⟨by rfl,?_⟩) ?_ ?_
                rotate_left
                ·intro w'
                 go_simp
                 with_reducible rfl
                rotate_left
                ·simp only [Act.put,List.setIfInBounds_toArray,List.set_cons_zero,List.set_cons_succ,i64_w,i32_w]
                 rfl
                refine pure_ (i:=7) (N:=some 44) (v:=?_) (a':=?_) #[true,true,false,false,false,true,true,true,false,false,false,false,false,false,false,false,false,false,false,false,false,false,false,false,false,false,false,false] rfl rfl (any_of HT_.out (by kernel_rfl)) (fun _ _ _ h=>h) (Or.inl ⟨by rfl,?_⟩) ?_ ?_
                rotate_left
                ·intro w'
                 go_simp
                 with_reducible rfl
                rotate_left
                ·simp only [Act.put,List.setIfInBounds_toArray,List.set_cons_zero,List.set_cons_succ,i64_w,i32_w]
                 rfl
                refine pure_ (i:=11) (N:=some 48) (v:=?_) (a':=?_) #[true,true,false,false,false,true,true,true,false,false,false,true,false,false,false,false,false,false,false,false,false,false,false,false,false,false,false,false] rfl rfl (any_of HT_.out (by kernel_rfl)) (fun _ _ _ h=>h) (Or.inl ⟨by rfl,?_⟩) ?_ ?_
                rotate_left
                ·intro w'
                 go_simp
                 with_reducible rfl
                rotate_left
                ·simp only [Act.put,List.setIfInBounds_toArray,List.set_cons_zero,List.set_cons_succ,i64_w,i32_w]
                 rfl
                refine pure_ (i:=14) (N:=some 51) (v:=?_) (a':=?_) #[true,true,false,false,false,true,true,true,false,false,false,true,false,false,true,false,false,false,false,false,false,false,false,false,false,false,false,false] rfl rfl (any_of HT_.out (by kernel_rfl)) (fun _ _ _ h=>h) (Or.inl ⟨by rfl,?_⟩) ?_ ?_
                rotate_left
                ·intro w'
                 go_simp
                 with_reducible rfl
                rotate_left
                ·simp only [Act.put,List.setIfInBounds_toArray,List.set_cons_zero,List.set_cons_succ,i64_w,i32_w]
                 rfl
                refine pure_ (i:=16) (N:=some 53) (v:=?_) (a':=?_) #[true,true,false,false,false,true,true,true,false,false,false,true,false,false,true,false,true,false,false,false,false,false,false,false,false,false,false,false] rfl rfl (any_of HT_.out (by kernel_rfl)) (fun _ _ _ h=>h) (Or.inl ⟨by rfl,?_⟩) ?_ ?_
                rotate_left
                ·intro w'
                 go_simp
                 with_reducible rfl
                rotate_left
                ·simp only [Act.put,List.setIfInBounds_toArray,List.set_cons_zero,List.set_cons_succ,i64_w,i32_w]
                 rfl
                refine pure_ (i:=17) (N:=some 54) (v:=?_) (a':=?_) #[true,true,false,false,false,true,true,true,false,false,false,true,false,false,true,false,true,true,false,false,false,false,false,false,false,false,false,false] rfl rfl (any_of HT_.out (by kernel_rfl)) (fun _ _ _ h=>h) (Or.inl ⟨by rfl,?_⟩) ?_ ?_
                rotate_left
                ·intro w'
                 go_simp
                 with_reducible rfl
                rotate_left
                ·simp only [Act.put,List.setIfInBounds_toArray,List.set_cons_zero,List.set_cons_succ,i64_w,i32_w]
                 rfl
                refine pure_ (i:=21) (N:=some 58) (v:=?_) (a':=?_) #[true,true,false,false,false,true,true,true,false,false,false,true,false,false,true,false,true,true,false,false,false,true,false,false,false,false,false,false] rfl rfl (any_of HT_.out (by kernel_rfl)) (fun _ _ _ h=>h) (Or.inl ⟨by rfl,?_⟩) ?_ ?_
                rotate_left
                ·intro w'
                 go_simp
                 with_reducible rfl
                rotate_left
                ·simp only [Act.put,List.setIfInBounds_toArray,List.set_cons_zero,List.set_cons_succ,i64_w,i32_w]
                 rfl
                refine take_ (i:=2) (N:=some 39) (v:=?_) (a':=?_) #[true,true,true,false,false,true,true,true,false,false,false,true,false,false,true,false,true,true,false,false,false,true,false,false,false,false,false,false] rfl rfl (take_ofW HT_.out HW_.out (by kernel_rfl)) (fun _ _ _ h=>h) (Or.inl ⟨by rfl,?_⟩) hHeld ?_ ?_
                rotate_left
                ·rintro w' ⟨s0,s1,s2,s3,s4,s5,s6,s7,s8,s9⟩
                 go_simp
                 with_reducible rfl
                rotate_left
                ·simp only [Act.put,List.setIfInBounds_toArray,List.set_cons_zero,List.set_cons_succ,i64_w,i32_w]
                 rfl
                refine pure_ (i:=3) (N:=some 40) (v:=?_) (a':=?_) #[true,true,true,true,false,true,true,true,false,false,false,true,false,false,true,false,true,true,false,false,false,true,false,false,false,false,false,false] rfl rfl (any_of HT_.out (by kernel_rfl)) (fun _ _ _ h=>h) (Or.inl ⟨by rfl,?_⟩) ?_ ?_
                rotate_left
                ·intro w'
                 go_simp
                 with_reducible rfl
                rotate_left
                ·simp only [Act.put,List.setIfInBounds_toArray,List.set_cons_zero,List.set_cons_succ,i64_w,i32_w]
                 rfl
                refine take_ (i:=4) (N:=some 41) (v:=?_) (a':=?_) #[true,true,true,true,true,true,true,true,false,false,false,true,false,false,true,false,true,true,false,false,false,true,false,false,false,false,false,false] rfl rfl (take_ofW HT_.out HW_.out (by kernel_rfl)) (fun _ _ _ h=>h) (Or.inl ⟨by rfl,?_⟩) hHeld ?_ ?_
                rotate_left
                ·rintro w' ⟨s0,s1,s2,s3,s4,s5,s6,s7,s8,s9⟩
                 go_simp
                 with_reducible rfl
                rotate_left
                ·simp only [Act.put,List.setIfInBounds_toArray,List.set_cons_zero,List.set_cons_succ,i64_w,i32_w]
                 rfl
                refine take_ (i:=8) (N:=some 45) (v:=?_) (a':=?_) #[true,true,true,true,true,true,true,true,true,false,false,true,false,false,true,false,true,true,false,false,false,true,false,false,false,false,false,false] rfl rfl (take_ofW HT_.out HW_.out (by kernel_rfl)) (fun _ _ _ h=>h) (Or.inl ⟨by rfl,?_⟩) hHeld ?_ ?_
                rotate_left
                ·rintro w' ⟨s0,s1,s2,s3,s4,s5,s6,s7,s8,s9⟩
                 go_simp
                 with_reducible rfl
                rotate_left
                ·simp only [Act.put,List.setIfInBounds_toArray,List.set_cons_zero,List.set_cons_succ,i64_w,i32_w]
                 rfl
                refine pure_ (i:=9) (N:=some 46) (v:=?_) (a':=?_) #[true,true,true,true,true,true,true,true,true,true,false,true,false,false,true,false,true,true,false,false,false,true,false,false,false,false,false,false] rfl rfl (any_of HT_.out (by kernel_rfl)) (fun _ _ _ h=>h) (Or.inl ⟨by rfl,?_⟩) ?_ ?_
                rotate_left
                ·intro w'
                 go_simp
                 with_reducible rfl
                rotate_left
                ·simp only [Act.put,List.setIfInBounds_toArray,List.set_cons_zero,List.set_cons_succ,i64_w,i32_w]
                 rfl
                refine take_ (i:=10) (N:=some 47) (v:=?_) (a':=?_) #[true,true,true,true,true,true,true,true,true,true,true,true,false,false,true,false,true,true,false,false,false,true,false,false,false,false,false,false] rfl rfl (take_ofW HT_.out HW_.out (by kernel_rfl)) (fun _ _ _ h=>h) (Or.inl ⟨by rfl,?_⟩) hHeld ?_ ?_
                rotate_left
                ·rintro w' ⟨s0,s1,s2,s3,s4,s5,s6,s7,s8,s9⟩
                 go_simp
                 with_reducible rfl
                rotate_left
                ·simp only [Act.put,List.setIfInBounds_toArray,List.set_cons_zero,List.set_cons_succ,i64_w,i32_w]
                 rfl
                refine pure_ (i:=12) (N:=some 49) (v:=?_) (a':=?_) #[true,true,true,true,true,true,true,true,true,true,true,true,true,false,true,false,true,true,false,false,false,true,false,false,false,false,false,false] rfl rfl (any_of HT_.out (by kernel_rfl)) (fun _ _ _ h=>h) (Or.inl ⟨by rfl,?_⟩) ?_ ?_
                rotate_left
                ·intro w'
                 go_simp
                 with_reducible rfl
                rotate_left
                ·simp only [Act.put,List.setIfInBounds_toArray,List.set_cons_zero,List.set_cons_succ,i64_w,i32_w]
                 rfl
                refine take_ (i:=13) (N:=some 50) (v:=?_) (a':=?_) #[true,true,true,true,true,true,true,true,true,true,true,true,true,true,true,false,true,true,false,false,false,true,false,false,false,false,false,false] rfl rfl (take_ofW HT_.out HW_.out (by kernel_rfl)) (fun _ _ _ h=>h) (Or.inl ⟨by rfl,?_⟩) hHeld ?_ ?_
                rotate_left
                ·rintro w' ⟨s0,s1,s2,s3,s4,s5,s6,s7,s8,s9⟩
                 go_simp
                 with_reducible rfl
                rotate_left
                ·simp only [Act.put,List.setIfInBounds_toArray,List.set_cons_zero,List.set_cons_succ,i64_w,i32_w]
                 rfl
                refine take_ (i:=15) (N:=some 52) (v:=?_) (a':=?_) #[true,true,true,true,true,true,true,true,true,true,true,true,true,true,true,true,true,true,false,false,false,true,false,false,false,false,false,false] rfl rfl (take_ofW HT_.out HW_.out (by kernel_rfl)) (fun _ _ _ h=>h) (Or.inl ⟨by rfl,?_⟩) hHeld ?_ ?_
                rotate_left
                ·rintro w' ⟨s0,s1,s2,s3,s4,s5,s6,s7,s8,s9⟩
                 go_simp
                 with_reducible rfl
                rotate_left
                ·simp only [Act.put,List.setIfInBounds_toArray,List.set_cons_zero,List.set_cons_succ,i64_w,i32_w]
                 rfl
                refine take_ (i:=18) (N:=some 55) (v:=?_) (a':=?_) #[true,true,true,true,true,true,true,true,true,true,true,true,true,true,true,true,true,true,true,false,false,true,false,false,false,false,false,false] rfl rfl (take_ofW HT_.out HW_.out (by kernel_rfl)) (fun _ _ _ h=>h) (Or.inl ⟨by rfl,?_⟩) hHeld ?_ ?_
                rotate_left
                ·rintro w' ⟨s0,s1,s2,s3,s4,s5,s6,s7,s8,s9⟩
                 go_simp
                 with_reducible rfl
                rotate_left
                ·simp only [Act.put,List.setIfInBounds_toArray,List.set_cons_zero,List.set_cons_succ,i64_w,i32_w]
                 rfl
                refine pure_ (i:=19) (N:=some 56) (v:=?_) (a':=?_) #[true,true,true,true,true,true,true,true,true,true,true,true,true,true,true,true,true,true,true,true,false,true,false,false,false,false,false,false] rfl rfl (any_of HT_.out (by kernel_rfl)) (fun _ _ _ h=>h) (Or.inl ⟨by rfl,?_⟩) ?_ ?_
                rotate_left
                ·intro w'
                 go_simp
                 with_reducible rfl
                rotate_left
                ·simp only [Act.put,List.setIfInBounds_toArray,List.set_cons_zero,List.set_cons_succ,i64_w,i32_w]
                 rfl
                refine take_ (i:=20) (N:=some 57) (v:=?_) (a':=?_) #[true,true,true,true,true,true,true,true,true,true,true,true,true,true,true,true,true,true,true,true,true,true,false,false,false,false,false,false] rfl rfl (take_ofW HT_.out HW_.out (by kernel_rfl)) (fun _ _ _ h=>h) (Or.inl ⟨by rfl,?_⟩) hHeld ?_ ?_
                rotate_left
                ·rintro w' ⟨s0,s1,s2,s3,s4,s5,s6,s7,s8,s9⟩
                 go_simp
                 with_reducible rfl
                rotate_left
                ·simp only [Act.put,List.setIfInBounds_toArray,List.set_cons_zero,List.set_cons_succ,i64_w,i32_w]
                 rfl
                refine pure_ (i:=22) (N:=some 59) (v:=?_) (a':=?_) #[true,true,true,true,true,true,true,true,true,true,true,true,true,true,true,true,true,true,true,true,true,true,true,false,false,false,false,false] rfl rfl (any_of HT_.out (by kernel_rfl)) (fun _ _ _ h=>h) (Or.inl ⟨by rfl,?_⟩) ?_ ?_
                rotate_left
                ·intro w'
                 go_simp
                 with_reducible rfl
                rotate_left
                ·simp only [Act.put,List.setIfInBounds_toArray,List.set_cons_zero,List.set_cons_succ,i64_w,i32_w]
                 rfl
                refine take_ (i:=23) (N:=some 60) (v:=?_) (a':=?_) #[true,true,true,true,true,true,true,true,true,true,true,true,true,true,true,true,true,true,true,true,true,true,true,true,false,false,false,false] rfl rfl (take_ofW HT_.out HW_.out (by kernel_rfl)) (fun _ _ _ h=>h) (Or.inl ⟨by rfl,?_⟩) hHeld ?_ ?_
                rotate_left
                ·rintro w' ⟨s0,s1,s2,s3,s4,s5,s6,s7,s8,s9⟩
                 go_simp
                 with_reducible rfl
                rotate_left
                ·simp only [Act.put,List.setIfInBounds_toArray,List.set_cons_zero,List.set_cons_succ,i64_w,i32_w]
                 rfl
                refine pure_ (i:=24) (N:=some 61) (v:=?_) (a':=?_) #[true,true,true,true,true,true,true,true,true,true,true,true,true,true,true,true,true,true,true,true,true,true,true,true,true,false,false,false] rfl rfl (any_of HT_.out (by kernel_rfl)) (fun _ _ _ h=>h) (Or.inl ⟨by rfl,?_⟩) ?_ ?_
                rotate_left
                ·intro w'
                 go_simp
                 with_reducible rfl
                rotate_left
                ·simp only [Act.put,List.setIfInBounds_toArray,List.set_cons_zero,List.set_cons_succ,i64_w,i32_w]
                 rfl
                refine pure_ (i:=25) (N:=some 62) (v:=?_) (a':=?_) #[true,true,true,true,true,true,true,true,true,true,true,true,true,true,true,true,true,true,true,true,true,true,true,true,true,true,false,false] rfl rfl (any_of HT_.out (by kernel_rfl)) (fun _ _ _ h=>h) (Or.inl ⟨by rfl,?_⟩) ?_ ?_
                rotate_left
                ·intro w'
                 go_simp
                 with_reducible rfl
                rotate_left
                ·simp only [Act.put,List.setIfInBounds_toArray,List.set_cons_zero,List.set_cons_succ,i64_w,i32_w]
                 rfl
                refine pure_ (i:=26) (N:=some 63) (v:=?_) (a':=?_) #[true,true,true,true,true,true,true,true,true,true,true,true,true,true,true,true,true,true,true,true,true,true,true,true,true,true,true,false] rfl rfl (any_of HT_.out (by kernel_rfl)) (fun _ _ _ h=>h) (Or.inl ⟨by rfl,?_⟩) ?_ ?_
                rotate_left
                ·intro w'
                 go_simp
                 with_reducible rfl
                rotate_left
                ·simp only [Act.put,List.setIfInBounds_toArray,List.set_cons_zero,List.set_cons_succ,i64_w,i32_w]
                 rfl
                refine last_ (i:=27) (N:=none) #[true,true,true,true,true,true,true,true,true,true,true,true,true,true,true,true,true,true,true,true,true,true,true,true,true,true,true,true] rfl rfl (one_of HT_.out (by kernel_rfl)) (by decide) (fun K hK=>?_)
                refine skip_ (w1:=?_) (by rfl) rfl ?_ ?_
                rotate_left
                ·go_simp
                 rfl
                refine hK.out _ _ ?_
                clear hK K
                refine done_ (done_of HT_.out (by kernel_rfl)) ?_
                try go_wp2
                go_roundg k2
                case measure=>have:=HK1.out;have:=HK2.out;omega
                case rel=>exact ⟨(y325),(wrap64 (x10_2 + 1)),(by first|rfl|(simp;done)|(simp [*];done)),H',⟨by have:=HK1.out;have:=HK2.out;omega⟩,⟨by (with_reducible repeat (first|apply Kd.S_alloc|apply Kd.S_drewN|apply Kd.S_drew));exact HQ24.out⟩,⟨by (with_reducible repeat (first|refine blk_drewN ?_ _|refine blk_drew ?_|refine blk_alloc ?_ _));refine blk_far ?_ (by have h_:=Kd.R_ne HL318_0.out BK315.out (by decide);intro e_;exact h_ (by rw [e_];rfl)) _;(with_reducible repeat (first|refine blk_drewN ?_ _|refine blk_drew ?_|refine blk_alloc ?_ _));exact BK315.out⟩,⟨by repeat (first|(with_reducible first|exact HB.out|apply below_alloc|apply pw_below_drewN|apply below_drew1|refine below_set ?_ GB20.out|refine below_set ?_ GE315.out)|exact HB.out)⟩⟩
               ·rw [if_neg c18] at H
                exact absurd H (by simp)
              ·rw [if_neg c17] at H
               exact absurd H (by simp)
             ·rw [if_neg c16] at H
              exact absurd H (by simp)
            ·rw [if_neg c15] at H
             have c15b0 : decide ((rd (rd_L5 l2 ((rd_T79 l1 x8_1).f2)) x10_2) < 1125899906842624) = false:=decide_eq_false c15
             clear c15
             have H':=Aside0.mk H
             clear H
             have hcz26_0 : wr.cell? ⟨gb315,0,none⟩ = some (.int .i64 ((rd_T79 l1 x8_1).f0.f0)):=(blk_cell BK315.out 0).trans rfl
             have hcz26_1 : wr.cell? ⟨gb315,1,none⟩ = some (.int .i64 ((rd_T79 l1 x8_1).f0.f1)):=(blk_cell BK315.out 1).trans rfl
             have hcz26_2 : wr.cell? ⟨gb315,2,none⟩ = some (.int .i64 ((rd_T79 l1 x8_1).f1)):=(blk_cell BK315.out 2).trans rfl
             have hcz26_3 : wr.cell? ⟨gb315,3,none⟩ = some (.int .i64 ((rd_T79 l1 x8_1).f2)):=(blk_cell BK315.out 3).trans rfl
             have hcz26_4 : wr.cell? ⟨gb315,4,none⟩ = some (.int .i64 ((rd_T79 l1 x8_1).f3)):=(blk_cell BK315.out 4).trans rfl
             have hfz26_0:=blk_frozen BK315.out 0
             have hfz26_1:=blk_frozen BK315.out 1
             have hfz26_2:=blk_frozen BK315.out 2
             have hfz26_3:=blk_frozen BK315.out 3
             have hfz26_4:=blk_frozen BK315.out 4
             have p316 : 0 ≤ (((rd_T79 l1 x8_1).f2) : Int):=of_decide_eq_true (by first|(with_reducible assumption)|assumption)
             have q316 : ((rd_T79 l1 x8_1).f2) < (l2.length : Int):=of_decide_eq_true (by first|(with_reducible assumption)|assumption)
             obtain ⟨ad316,A316_0,c316_0,e316,hx316_0,hl316_0,hi316_0⟩:=at_L5 HR2.out ((rd_T79 l1 x8_1).f2) p316 q316
             cases e316
             replace hx316_0:=(HB.out.cell (World.block_lt_of_cell? w _ hx316_0)).trans hx316_0
             have HR316_0:=Aside0.mk hi316_0
             have HC316_0:=Aside0.mk hl316_0
             clear hi316_0 hl316_0
             replace p316:=eq_true p316
             replace q316:=eq_true q316
             have p317 : 0 ≤ (x10_2 : Int):=of_decide_eq_true (by first|(with_reducible assumption)|assumption)
             have q317 : x10_2 < ((rd_L5 l2 ((rd_T79 l1 x8_1).f2)).length : Int):=of_decide_eq_true (by first|(with_reducible assumption)|assumption)
             obtain ⟨ad317,e317,hx317_0⟩:=Kd.at_int HR316_0.out x10_2 p317 q317
             cases e317
             replace hx317_0:=(HB.out.cell (World.block_lt_of_cell? w _ hx317_0)).trans hx317_0
             replace p317:=eq_true p317
             replace q317:=eq_true q317
             go_wp2
             go_roundg k2
             case measure=>have:=HK1.out;have:=HK2.out;omega
             case rel=>exact ⟨(x7_2),(wrap64 (x10_2 + 1)),(by first|rfl|(simp;done)|(simp [*];done)),H',⟨by have:=HK1.out;have:=HK2.out;omega⟩,⟨by (with_reducible repeat (first|apply Kd.S_alloc|apply Kd.S_drewN|apply Kd.S_drew));exact HO_7.out⟩,⟨by (with_reducible repeat (first|refine blk_drewN ?_ _|refine blk_drew ?_|refine blk_alloc ?_ _));exact BK315.out⟩,⟨by repeat (first|(with_reducible first|exact HB.out|apply below_alloc|apply pw_below_drewN|apply below_drew1|refine below_set ?_ GE315.out)|exact HB.out)⟩⟩
           ·rw [if_neg c14] at H
            exact absurd H (by simp)
          ·rw [if_neg c13] at H
           exact absurd H (by simp)
         ·rw [if_neg c12] at H
          exact absurd H (by simp)
        ·rw [if_neg c11] at H
         exact absurd H (by simp)
       ·rw [if_neg c10] at H
        have c10b0 : decide (x10_2 ≤ a0) = false:=decide_eq_false c10
        clear c10
        have H':=Aside0.mk H
        clear H
        go_wp2
        go_roundg k2
        case measure=>have:=HK1.out;have:=HK2.out;omega
        case rel=>exact ⟨(x7_2),(wrap64 (x8_1 + 1)),(by first|rfl|(simp;done)|(simp [*];done)),H',⟨by have:=HK1.out;have:=HK2.out;omega⟩,⟨by (with_reducible repeat (first|apply Kd.S_alloc|apply Kd.S_drewN|apply Kd.S_drew));exact HO_7.out⟩,⟨by repeat (first|(with_reducible first|exact HB.out|apply below_alloc|apply pw_below_drewN|apply below_drew1|refine below_set ?_ GE315.out)|exact HB.out)⟩⟩
    ·rw [if_neg c7] at H
     exact absurd H (by simp)
   ·rw [if_neg c6] at H
    have c6b0 : decide (x8_1 < (l1.length : Int)) = false:=decide_eq_false c6
    clear c6
    obtain rfl:=Option.some.inj H
    go_wp2
    go_ret
    exact ⟨_,by first|rfl|(simp [errW_none,errW_some] <;> rfl)|(simp [*,errW_none,errW_some] <;> rfl),by (with_reducible repeat (first|apply Kd.S_alloc|apply Kd.S_drewN|apply Kd.S_drew));exact HO_7.out,by repeat (first|(with_reducible first|exact HB.out|apply below_alloc|apply pw_below_drewN|apply below_drew1)|exact HB.out)⟩

end Go.Proofs.Yteebkkdbkkibmaa.Pr
