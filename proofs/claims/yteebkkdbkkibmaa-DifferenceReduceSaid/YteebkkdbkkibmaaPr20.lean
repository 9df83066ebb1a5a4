/- Functions of this claim and what their calls compute, written by wip/tools/mp.py, a variant of the kit printer. Conditions: each theorem has its own. -/
import Derived.Test.YteebkkdbkkibmaaPr0
import Derived.Test.YteebkkdbkkibmaaPr4
import Derived.Test.YteebkkdbkkibmaaPr7
import Derived.Test.YteebkkdbkkibmaaPr14
import Derived.Test.YteebkkdbkkibmaaPr18
namespace Go.Proofs.Yteebkkdbkkibmaa.Pr
open Go.RowKit Go.Proofs.YteebkkdbkkibmaaW.PrintWords Go.Proofs.YteebkkdbkkibmaaW.PrintLast Go.Proofs.YteebkkdbkkibmaaW.PrintMore
attribute [local go_sem] max2_int min2_int max_two min_two max_three min_three max_four min_four   -- for this text's walks alone
set_option linter.unusedVariables false
set_option linter.unusedSimpArgs false

/-! ### difference_Reduce: function 20 -/
def difference_Reduce.l0 : Nat → Int → List (S26) → List (S26) → Int → Int → Option ((List (S26)) × Int)
 | 0,_,_,_,_,_ => none
 | k + 1,x0,x7,x18,x19,x20 => if x20 < x19 then (if 0 ≤ x20 then (if x20 < (x18.length : Int) then ((difference_Implies.f k x0 x7 ((rd_T26 x18 x20).f0) ((rd_T26 x18 x20).f1.f0) ((rd_T26 x18 x20).f1.f1) ((rd_T26 x18 x20).f2.f0) ((rd_T26 x18 x20).f2.f1)).bind fun bt357 => (if bt357.1 = true then (difference_Reduce.l0 k x0 x7 x18 x19 (wrap64 (x20 + 1))) else (if x7.length < 3518437208883 then (difference_Reduce.l0 k x0 (x7 ++ [(⟨(rd_T26 x18 x20).f0,(⟨(rd_T26 x18 x20).f1.f0,(rd_T26 x18 x20).f1.f1⟩ : S24),(⟨(rd_T26 x18 x20).f2.f0,(rd_T26 x18 x20).f2.f1⟩ : S24)⟩ : S26)]) x18 x19 (wrap64 (x20 + 1))) else (none)))) else (none)) else (none)) else (some (x7,0))
def difference_Reduce.f (k : Nat) (a0 : Int) (l1 : List (S26)) : Option ((List (S26)) × Int):=(difference_Valid.f k a0 l1).bind fun t354=>(if t354 = 0 then (difference_Reduce.l0 k a0 ([] : List (S26)) l1 (l1.length : Int) 0) else (some (([] : List (S26)),t354)))
theorem difference_Reduce.mono_l : ∀ k,(∀ y0 y1 y2 y3 y4,LeO (difference_Reduce.l0 k y0 y1 y2 y3 y4) (difference_Reduce.l0 (k + 1) y0 y1 y2 y3 y4))
 | 0 => fun _ _ _ _ _ r h => by simp [difference_Reduce.l0] at h
 | k + 1 => by
  have ih0:=difference_Reduce.mono_l k
  ·intro y0 y1 y2 y3 y4
   unfold difference_Reduce.l0
   repeat' first
   | (with_reducible exact ih0 _ _ _ _ _)
   | (with_reducible exact difference_Implies.mono _ _ _ _ _ _ _ _)
   | (with_reducible exact difference_Valid.mono _ _ _)
   | (with_reducible exact LeO.refl _)
   | (with_reducible exact LeO.none _)
   | (with_reducible refine LeO.ite ?_ ?_)
   | (with_reducible refine LeO.bind ?_ (fun _ => ?_))
   | exact ih0 _ _ _ _ _
   | exact difference_Implies.mono _ _ _ _ _ _ _ _
   | exact difference_Valid.mono _ _ _
   | exact LeO.none _
   | refine LeO.ite ?_ ?_
   | refine LeO.bind ?_ (fun _ => ?_)
theorem difference_Reduce.mono : ∀ a0 a1 k,LeO (difference_Reduce.f k a0 a1) (difference_Reduce.f (k + 1) a0 a1):=by
 intro a0 a1 k
 have ih0:=difference_Reduce.mono_l k
 unfold difference_Reduce.f
 repeat' first
   | (with_reducible exact ih0 _ _ _ _ _)
   | (with_reducible exact difference_Implies.mono _ _ _ _ _ _ _ _)
   | (with_reducible exact difference_Valid.mono _ _ _)
   | (with_reducible exact LeO.refl _)
   | (with_reducible exact LeO.none _)
   | (with_reducible refine LeO.ite ?_ ?_)
   | (with_reducible refine LeO.bind ?_ (fun _ => ?_))
   | exact ih0 _ _ _ _ _
   | exact difference_Implies.mono _ _ _ _ _ _ _ _
   | exact difference_Valid.mono _ _ _
   | exact LeO.none _
   | refine LeO.ite ?_ ?_
   | refine LeO.bind ?_ (fun _ => ?_)
set_option maxHeartbeats 8000000 in
set_option maxRecDepth 100000 in
theorem difference_Reduce.calls (k : Nat) (a0 : Int) (A1 : Option Addr) (c1 : Nat) (l1 : List (S26)) (r1 : List (S26)) (r2 : Int) (w : World) (hr1 : Kd.C k26 w A1 l1.length l1) (hc1 : l1.length ≤ c1) (h : difference_Reduce.f k a0 l1 = some (r1,r2)) :
  Calls Try.prog 20 #[.int .i64 a0,.slice A1 l1.length c1] w fun e w'=>∃ v0_ : Value,e = .returned (.tuple #[v0_,.int .i64 r2]) ∧ Kd.R k26 26 w' w.heap.size (fun _=>True) v0_ r1 ∧ Below w.heap.size w w':=by
 have hu26:=Try.underlying26
 have HR1:=Aside0.mk hr1
 have HC1:=Aside0.mk hc1
 clear hr1 hc1
 have HB:=Aside0.mk (Below.refl w.heap.size w)
 have H : ((difference_Valid.f k a0 l1).bind fun t354=>(if t354 = 0 then (difference_Reduce.l0 k a0 ([] : List (S26)) l1 (l1.length : Int) 0) else (some (([] : List (S26)),t354)))) = some (r1,r2):=h
 clear h
 replace H:=Option.bind_eq_some_iff.mp H
 obtain ⟨t354,A30,H⟩:=H
 replace H : (if t354 = 0 then (difference_Reduce.l0 k a0 ([] : List (S26)) l1 (l1.length : Int) 0) else (some (([] : List (S26)),t354))) = some (r1,r2):=H
 have A3:=Aside0.mk A30
 clear A30
 by_cases c4 : t354 = 0
 ·rw [if_pos c4] at H
  have c4b0 : (t354 == 0) = true:=beq_iff_eq.mpr c4
  have c4b1 : (t354 != 0) = false:=bne_eq_false_iff_eq.mpr c4
  clear c4
  have H':=Aside0.mk H
  clear H
  go_enter Try.func20,Try.ntmps20
  go_wp2_with (first|((with_reducible refine gate_callee (f:=30) rfl ?_);refine goesL_ (some 14) rfl rfl Try.func30 (by kernel_rfl) rfl #[.int .i64 a0,.slice A1 l1.length c1] rfl (by (try simp only [List.map_toArray,List.map_cons,List.map_nil]);first|done|rfl|(simp only [List.length_drop,List.length_take];rfl)) ?_;(with_reducible refine (difference_Valid.calls k a0 _ _ l1 t354 _ ?side1 ?side2 A3.out).mono ?_);(case side1=>repeat (first|exact HR1.out|(with_reducible refine Kd.C_alloc ?_ _)|(with_reducible refine Kd.C_drewN ?_ _)|(with_reducible refine Kd.C_drew ?_)));(case side2=>exact HC1.out);rintro e w5 ⟨rfl,hb⟩;refine ⟨_,rfl,?_⟩;have n0_:=Aside0.mk (below_step (by repeat (first|(with_reducible first|exact HB.out|apply below_alloc|apply pw_below_drewN|apply below_drew1)|exact HB.out)) hb);clear HB;have HB:=n0_;clear n0_;(try clear hb);(try clear hb2);(try clear hk);(try clear hi)))
  go_loopg [7,20] k (fun kq v7 v20 w'=>∃ (x7_1 : List (S26)) (x20_1 : Int),v20 = .int .i64 x20_1 ∧ Aside0 (difference_Reduce.l0 kq a0 x7_1 l1 (l1.length : Int) x20_1 = some (r1,r2)) ∧ Aside0 (kq ≤ k) ∧ Aside0 (Kd.R k26 26 w' w.heap.size (fun _=>True) v7 x7_1) ∧ Aside0 (Below w.heap.size w w'))
  case atStart=>exact ⟨(([] : List (S26))),(0),(by first|rfl|(simp;done)|(simp [*];done)),H',⟨Nat.le_refl _⟩,⟨by first|exact Kd.R_nil _ _ _ _ _|exact Kd.N_nil _ _ _ _ _|exact Kd.V_nil _ _ _ _ _|exact Kd.Q_nil _ _ _ _ _|exact Kd.S_nil _ _ _ _ _⟩,⟨by repeat (first|(with_reducible first|exact HB.out|apply below_alloc|apply pw_below_drewN|apply below_drew1)|exact HB.out)⟩⟩
  case round =>
   clear H'
   try clear c1
   try clear c2
   try clear p2
   try clear c3
   try clear c4
   try clear c4b0
   try clear c4b1
   obtain ⟨x7_1,x20_1,rfl,HA,HK1,HO_7,HB⟩:=hrel
   cases gk with
   | zero => exact absurd HA.out (by simp [difference_Reduce.l0])
   | succ k1 =>
    have H:=HA.out
    clear HA
    simp only [difference_Reduce.l0] at H
    by_cases c6 : x20_1 < (l1.length : Int)
    ·rw [if_pos c6] at H
     have c6b0 : decide (x20_1 < (l1.length : Int)) = true:=decide_eq_true c6
     clear c6
     by_cases c7 : 0 ≤ x20_1
     ·rw [if_pos c7] at H
      have c7b0 : decide (0 ≤ x20_1) = true:=decide_eq_true c7
      clear c7
      by_cases c8 : x20_1 < (l1.length : Int)
      ·rw [if_pos c8] at H
       have c8b0 : decide (x20_1 < (l1.length : Int)) = true:=decide_eq_true c8
       clear c8
       replace H:=Option.bind_eq_some_iff.mp H
       obtain ⟨⟨t357,t358⟩,A90,H⟩:=H
       replace H : (if t357 = true then (difference_Reduce.l0 k1 a0 x7_1 l1 (l1.length : Int) (wrap64 (x20_1 + 1))) else (if x7_1.length < 3518437208883 then (difference_Reduce.l0 k1 a0 (x7_1 ++ [(⟨(rd_T26 l1 x20_1).f0,(⟨(rd_T26 l1 x20_1).f1.f0,(rd_T26 l1 x20_1).f1.f1⟩ : S24),(⟨(rd_T26 l1 x20_1).f2.f0,(rd_T26 l1 x20_1).f2.f1⟩ : S24)⟩ : S26)]) l1 (l1.length : Int) (wrap64 (x20_1 + 1))) else (none))) = some (r1,r2):=H
       have A9:=Aside0.mk A90
       clear A90
       by_cases c10 : t357 = true
       ·subst c10
        have H1 : (difference_Reduce.l0 k1 a0 x7_1 l1 (l1.length : Int) (wrap64 (x20_1 + 1))) = some (r1,r2):=by rw [if_pos rfl] at H;exact H
        clear H
        have H:=H1
        clear H1
        have H':=Aside0.mk H
        clear H
        have p355 : 0 ≤ (x20_1 : Int):=of_decide_eq_true (by first|(with_reducible assumption)|assumption)
        have q355 : x20_1 < (l1.length : Int):=of_decide_eq_true (by first|(with_reducible assumption)|assumption)
        obtain ⟨ad355,e355,hx355_0,hx355_1,hx355_2,hx355_3,hx355_4⟩:=at_T26 HR1.out x20_1 p355 q355
        cases e355
        replace hx355_0:=(HB.out.cell (World.block_lt_of_cell? w _ hx355_0)).trans hx355_0
        replace hx355_1:=(HB.out.cell (World.block_lt_of_cell? w _ hx355_1)).trans hx355_1
        replace hx355_2:=(HB.out.cell (World.block_lt_of_cell? w _ hx355_2)).trans hx355_2
        replace hx355_3:=(HB.out.cell (World.block_lt_of_cell? w _ hx355_3)).trans hx355_3
        replace hx355_4:=(HB.out.cell (World.block_lt_of_cell? w _ hx355_4)).trans hx355_4
        replace p355:=eq_true p355
        replace q355:=eq_true q355
        go_wp2_with (first|((with_reducible refine gate_dst (N:=9) rfl ?_);refine box_event ?hg (N:=9) ?hd (cs:=#[.int .i64 0,.int .i64 0,.int .i64 0,.int .i64 0,.int .i64 0]) (t:=26) ?hr ?_;(case hd=>rfl);(case hg=>rfl);(case hr=>first|(go_simp;done)|(go_simp;rfl));intro gb356 hg w11 hbox hb;have n0_:=Aside0.mk (Kd.R_below (Kd.R_elderB (by (with_reducible repeat (first|apply Kd.R_alloc|apply Kd.R_drewN|apply Kd.R_drew));exact HO_7.out) gb356 (Nat.le_of_eq hg.symm)) hb);have n1_:=Aside0.mk (below_step (by repeat (first|(with_reducible first|exact HB.out|apply below_alloc|apply pw_below_drewN|apply below_drew1)|exact HB.out)) hb);have n2_:=Aside0.mk (hbox);have n3_:=Aside0.mk ((by rw [hg];exact (below_size (by repeat (first|(with_reducible first|exact HB.out|apply below_alloc|apply pw_below_drewN|apply below_drew1)|exact HB.out))) : w.heap.size ≤ gb356));have n4_:=Aside0.mk ((by rw [hg];exact (below_size (by repeat (first|(with_reducible first|exact HB.out|apply below_alloc|apply pw_below_drewN|apply below_drew1)|exact HB.out))) : w.heap.size ≤ gb356));clear HO_7;clear HB;have HO_7:=n0_;have HB:=n1_;have BK356:=n2_;have GW356:=n3_;have GE356:=n4_;clear n0_ n1_ n2_ n3_ n4_;clear hb hbox hg;have hcz12_0 : w11.cell? ⟨gb356,0,none⟩ = some (.int .i64 0):=(blk_cell BK356.out 0).trans rfl;have hcz12_1 : w11.cell? ⟨gb356,1,none⟩ = some (.int .i64 0):=(blk_cell BK356.out 1).trans rfl;have hcz12_2 : w11.cell? ⟨gb356,2,none⟩ = some (.int .i64 0):=(blk_cell BK356.out 2).trans rfl;have hcz12_3 : w11.cell? ⟨gb356,3,none⟩ = some (.int .i64 0):=(blk_cell BK356.out 3).trans rfl;have hcz12_4 : w11.cell? ⟨gb356,4,none⟩ = some (.int .i64 0):=(blk_cell BK356.out 4).trans rfl;have hfz12_0:=blk_frozen BK356.out 0;have hfz12_1:=blk_frozen BK356.out 1;have hfz12_2:=blk_frozen BK356.out 2;have hfz12_3:=blk_frozen BK356.out 3;have hfz12_4:=blk_frozen BK356.out 4;obtain ⟨Ao13,co13,eo13⟩:=Kd.R_slice HO_7.out;subst eo13)|((with_reducible refine gate_callee (f:=13) rfl ?_);refine goesL_ (some 28) rfl rfl Try.func13 (by kernel_rfl) rfl #[.int .i64 a0,.slice Ao13 x7_1.length co13,.agg #[.int .i64 ((rd_T26 l1 x20_1).f0),.int .i64 ((rd_T26 l1 x20_1).f1.f0),.int .i64 ((rd_T26 l1 x20_1).f1.f1),.int .i64 ((rd_T26 l1 x20_1).f2.f0),.int .i64 ((rd_T26 l1 x20_1).f2.f1)]] rfl (by (try simp only [List.map_toArray,List.map_cons,List.map_nil]);first|done|rfl|(simp only [List.length_drop,List.length_take];rfl)) ?_;(with_reducible refine (difference_Implies.calls k1 a0 _ _ x7_1 ((rd_T26 l1 x20_1).f0) ((rd_T26 l1 x20_1).f1.f0) ((rd_T26 l1 x20_1).f1.f1) ((rd_T26 l1 x20_1).f2.f0) ((rd_T26 l1 x20_1).f2.f1) true t358 _ ?side1 ?side2 A9.out).mono ?_);(case side1=>refine (Kd.R_reads' (e:=26) (base:=w.heap.size) (ok:=fun k_=>(True ∧ k_ ≠ gb356)) (n:=x7_1.length) (c:=co13) ?_).2.2;exact (by (with_reducible repeat (first|apply Kd.R_alloc|apply Kd.R_drewN|apply Kd.R_drew));exact (Kd.R_mono (Kd.R_far (p:=⟨gb356,4,none⟩) (Kd.R_far (p:=⟨gb356,3,none⟩) (Kd.R_far (p:=⟨gb356,2,none⟩) (Kd.R_far (p:=⟨gb356,1,none⟩) (Kd.R_far (p:=⟨gb356,0,none⟩) (Kd.R_mono HO_7.out (fun k_ hk=>(⟨hk,hk.2⟩ : _ ∧ k_ ≠ gb356))) (fun _ hk=>hk.2) (.int .i64 ((rd_T26 l1 x20_1).f0))) (fun _ hk=>hk.2) (.int .i64 ((rd_T26 l1 x20_1).f1.f0))) (fun _ hk=>hk.2) (.int .i64 ((rd_T26 l1 x20_1).f1.f1))) (fun _ hk=>hk.2) (.int .i64 ((rd_T26 l1 x20_1).f2.f0))) (fun _ hk=>hk.2) (.int .i64 ((rd_T26 l1 x20_1).f2.f1))) (fun _ h_=>h_.1))));(case side2=>exact (Kd.R_reads' HO_7.out).2.1);rintro e w14 ⟨rfl,hb⟩;refine ⟨_,rfl,?_⟩;have n0_:=Aside0.mk (Kd.R_below (by (with_reducible repeat (first|apply Kd.R_alloc|apply Kd.R_drewN|apply Kd.R_drew));exact (Kd.R_mono (Kd.R_far (p:=⟨gb356,4,none⟩) (Kd.R_far (p:=⟨gb356,3,none⟩) (Kd.R_far (p:=⟨gb356,2,none⟩) (Kd.R_far (p:=⟨gb356,1,none⟩) (Kd.R_far (p:=⟨gb356,0,none⟩) (Kd.R_mono HO_7.out (fun k_ hk=>(⟨hk,hk.2⟩ : _ ∧ k_ ≠ gb356))) (fun _ hk=>hk.2) (.int .i64 ((rd_T26 l1 x20_1).f0))) (fun _ hk=>hk.2) (.int .i64 ((rd_T26 l1 x20_1).f1.f0))) (fun _ hk=>hk.2) (.int .i64 ((rd_T26 l1 x20_1).f1.f1))) (fun _ hk=>hk.2) (.int .i64 ((rd_T26 l1 x20_1).f2.f0))) (fun _ hk=>hk.2) (.int .i64 ((rd_T26 l1 x20_1).f2.f1))) (fun _ h_=>h_.1))) hb);have n1_:=Aside0.mk (blk_below (g:=gb356) (o:=.cells #[.int .i64 ((rd_T26 l1 x20_1).f0),.int .i64 ((rd_T26 l1 x20_1).f1.f0),.int .i64 ((rd_T26 l1 x20_1).f1.f1),.int .i64 ((rd_T26 l1 x20_1).f2.f0),.int .i64 ((rd_T26 l1 x20_1).f2.f1)] 26 (0,0)) (by (with_reducible repeat (first|refine blk_drewN ?_ _|refine blk_drew ?_|refine blk_alloc ?_ _));refine blk_put (cs:=#[.int .i64 ((rd_T26 l1 x20_1).f0),.int .i64 ((rd_T26 l1 x20_1).f1.f0),.int .i64 ((rd_T26 l1 x20_1).f1.f1),.int .i64 ((rd_T26 l1 x20_1).f2.f0),.int .i64 0]) ?_ 4 _ rfl;(with_reducible repeat (first|refine blk_drewN ?_ _|refine blk_drew ?_|refine blk_alloc ?_ _));refine blk_put (cs:=#[.int .i64 ((rd_T26 l1 x20_1).f0),.int .i64 ((rd_T26 l1 x20_1).f1.f0),.int .i64 ((rd_T26 l1 x20_1).f1.f1),.int .i64 0,.int .i64 0]) ?_ 3 _ rfl;(with_reducible repeat (first|refine blk_drewN ?_ _|refine blk_drew ?_|refine blk_alloc ?_ _));refine blk_put (cs:=#[.int .i64 ((rd_T26 l1 x20_1).f0),.int .i64 ((rd_T26 l1 x20_1).f1.f0),.int .i64 0,.int .i64 0,.int .i64 0]) ?_ 2 _ rfl;(with_reducible repeat (first|refine blk_drewN ?_ _|refine blk_drew ?_|refine blk_alloc ?_ _));refine blk_put (cs:=#[.int .i64 ((rd_T26 l1 x20_1).f0),.int .i64 0,.int .i64 0,.int .i64 0,.int .i64 0]) ?_ 1 _ rfl;(with_reducible repeat (first|refine blk_drewN ?_ _|refine blk_drew ?_|refine blk_alloc ?_ _));refine blk_put (cs:=#[.int .i64 0,.int .i64 0,.int .i64 0,.int .i64 0,.int .i64 0]) ?_ 0 _ rfl;(with_reducible repeat (first|refine blk_drewN ?_ _|refine blk_drew ?_|refine blk_alloc ?_ _));exact BK356.out) hb);have n2_:=Aside0.mk (below_step (by repeat (first|(with_reducible first|exact HB.out|apply below_alloc|apply pw_below_drewN|apply below_drew1|refine below_set ?_ GE356.out)|exact HB.out)) hb);clear HO_7;clear BK356;clear HB;have HO_7:=n0_;have BK356:=n1_;have HB:=n2_;clear n0_ n1_ n2_;(try clear hb);(try clear hb2);(try clear hk);(try clear hi)))
        go_roundg k1
        case measure=>have:=HK1.out;omega
        case rel=>exact ⟨(x7_1),(wrap64 (x20_1 + 1)),(by first|rfl|(simp;done)|(simp [*];done)),H',⟨by have:=HK1.out;omega⟩,⟨by (with_reducible repeat (first|apply Kd.R_alloc|apply Kd.R_drewN|apply Kd.R_drew));exact Kd.R_mono HO_7.out (fun _ hk=>trivial)⟩,⟨by repeat (first|(with_reducible first|exact HB.out|apply below_alloc|apply pw_below_drewN|apply below_drew1|refine below_set ?_ GE356.out)|exact HB.out)⟩⟩
       ·replace c10:=Bool.eq_false_iff.mpr c10
        subst c10
        have H1 : (if x7_1.length < 3518437208883 then (difference_Reduce.l0 k1 a0 (x7_1 ++ [(⟨(rd_T26 l1 x20_1).f0,(⟨(rd_T26 l1 x20_1).f1.f0,(rd_T26 l1 x20_1).f1.f1⟩ : S24),(⟨(rd_T26 l1 x20_1).f2.f0,(rd_T26 l1 x20_1).f2.f1⟩ : S24)⟩ : S26)]) l1 (l1.length : Int) (wrap64 (x20_1 + 1))) else (none)) = some (r1,r2):=by rw [if_neg (show ¬ (false = true) by decide)] at H;exact H
        clear H
        have H:=H1
        clear H1
        by_cases c15 : x7_1.length < 3518437208883
        ·rw [if_pos c15] at H
         have LMc15:=Aside0.mk c15
         clear c15
         obtain ⟨y359,hy359⟩ : ∃ y_ : List (S26),y_ = (x7_1 ++ [(⟨(rd_T26 l1 x20_1).f0,(⟨(rd_T26 l1 x20_1).f1.f0,(rd_T26 l1 x20_1).f1.f1⟩ : S24),(⟨(rd_T26 l1 x20_1).f2.f0,(rd_T26 l1 x20_1).f2.f1⟩ : S24)⟩ : S26)]):=⟨_,rfl⟩
         replace H : (difference_Reduce.l0 k1 a0 y359 l1 (l1.length : Int) (wrap64 (x20_1 + 1))) = some (r1,r2):=by first|(rw [hy359];with_reducible exact H)|(have H2_:=(Option.bind_some _ _).symm.trans H;rw [hy359];with_reducible exact H2_)|(have H2_:=(Option.bind_some _ _).symm.trans H;with_reducible exact H2_)|with_reducible exact H|(rw [hy359];exact H)|exact H
         have Ny359:=Aside0.mk hy359
         clear hy359
         have H':=Aside0.mk H
         clear H
         have p355 : 0 ≤ (x20_1 : Int):=of_decide_eq_true (by first|(with_reducible assumption)|assumption)
         have q355 : x20_1 < (l1.length : Int):=of_decide_eq_true (by first|(with_reducible assumption)|assumption)
         obtain ⟨ad355,e355,hx355_0,hx355_1,hx355_2,hx355_3,hx355_4⟩:=at_T26 HR1.out x20_1 p355 q355
         cases e355
         replace hx355_0:=(HB.out.cell (World.block_lt_of_cell? w _ hx355_0)).trans hx355_0
         replace hx355_1:=(HB.out.cell (World.block_lt_of_cell? w _ hx355_1)).trans hx355_1
         replace hx355_2:=(HB.out.cell (World.block_lt_of_cell? w _ hx355_2)).trans hx355_2
         replace hx355_3:=(HB.out.cell (World.block_lt_of_cell? w _ hx355_3)).trans hx355_3
         replace hx355_4:=(HB.out.cell (World.block_lt_of_cell? w _ hx355_4)).trans hx355_4
         replace p355:=eq_true p355
         replace q355:=eq_true q355
         go_wp2_with (first|((with_reducible refine gate_dst (N:=9) rfl ?_);refine box_event ?hg (N:=9) ?hd (cs:=#[.int .i64 0,.int .i64 0,.int .i64 0,.int .i64 0,.int .i64 0]) (t:=26) ?hr ?_;(case hd=>rfl);(case hg=>rfl);(case hr=>first|(go_simp;done)|(go_simp;rfl));intro gb356 hg w16 hbox hb;have n0_:=Aside0.mk (Kd.R_below (Kd.R_elderB (by (with_reducible repeat (first|apply Kd.R_alloc|apply Kd.R_drewN|apply Kd.R_drew));exact HO_7.out) gb356 (Nat.le_of_eq hg.symm)) hb);have n1_:=Aside0.mk (below_step (by repeat (first|(with_reducible first|exact HB.out|apply below_alloc|apply pw_below_drewN|apply below_drew1)|exact HB.out)) hb);have n2_:=Aside0.mk (hbox);have n3_:=Aside0.mk ((by rw [hg];exact (below_size (by repeat (first|(with_reducible first|exact HB.out|apply below_alloc|apply pw_below_drewN|apply below_drew1)|exact HB.out))) : w.heap.size ≤ gb356));have n4_:=Aside0.mk ((by rw [hg];exact (below_size (by repeat (first|(with_reducible first|exact HB.out|apply below_alloc|apply pw_below_drewN|apply below_drew1)|exact HB.out))) : w.heap.size ≤ gb356));clear HO_7;clear HB;have HO_7:=n0_;have HB:=n1_;have BK356:=n2_;have GW356:=n3_;have GE356:=n4_;clear n0_ n1_ n2_ n3_ n4_;clear hb hbox hg;have hcz17_0 : w16.cell? ⟨gb356,0,none⟩ = some (.int .i64 0):=(blk_cell BK356.out 0).trans rfl;have hcz17_1 : w16.cell? ⟨gb356,1,none⟩ = some (.int .i64 0):=(blk_cell BK356.out 1).trans rfl;have hcz17_2 : w16.cell? ⟨gb356,2,none⟩ = some (.int .i64 0):=(blk_cell BK356.out 2).trans rfl;have hcz17_3 : w16.cell? ⟨gb356,3,none⟩ = some (.int .i64 0):=(blk_cell BK356.out 3).trans rfl;have hcz17_4 : w16.cell? ⟨gb356,4,none⟩ = some (.int .i64 0):=(blk_cell BK356.out 4).trans rfl;have hfz17_0:=blk_frozen BK356.out 0;have hfz17_1:=blk_frozen BK356.out 1;have hfz17_2:=blk_frozen BK356.out 2;have hfz17_3:=blk_frozen BK356.out 3;have hfz17_4:=blk_frozen BK356.out 4;obtain ⟨Ao18,co18,eo18⟩:=Kd.R_slice HO_7.out;subst eo18)|((with_reducible refine gate_callee (f:=13) rfl ?_);refine goesL_ (some 28) rfl rfl Try.func13 (by kernel_rfl) rfl #[.int .i64 a0,.slice Ao18 x7_1.length co18,.agg #[.int .i64 ((rd_T26 l1 x20_1).f0),.int .i64 ((rd_T26 l1 x20_1).f1.f0),.int .i64 ((rd_T26 l1 x20_1).f1.f1),.int .i64 ((rd_T26 l1 x20_1).f2.f0),.int .i64 ((rd_T26 l1 x20_1).f2.f1)]] rfl (by (try simp only [List.map_toArray,List.map_cons,List.map_nil]);first|done|rfl|(simp only [List.length_drop,List.length_take];rfl)) ?_;(with_reducible refine (difference_Implies.calls k1 a0 _ _ x7_1 ((rd_T26 l1 x20_1).f0) ((rd_T26 l1 x20_1).f1.f0) ((rd_T26 l1 x20_1).f1.f1) ((rd_T26 l1 x20_1).f2.f0) ((rd_T26 l1 x20_1).f2.f1) false t358 _ ?side1 ?side2 A9.out).mono ?_);(case side1=>refine (Kd.R_reads' (e:=26) (base:=w.heap.size) (ok:=fun k_=>(True ∧ k_ ≠ gb356)) (n:=x7_1.length) (c:=co18) ?_).2.2;exact (by (with_reducible repeat (first|apply Kd.R_alloc|apply Kd.R_drewN|apply Kd.R_drew));exact (Kd.R_mono (Kd.R_far (p:=⟨gb356,4,none⟩) (Kd.R_far (p:=⟨gb356,3,none⟩) (Kd.R_far (p:=⟨gb356,2,none⟩) (Kd.R_far (p:=⟨gb356,1,none⟩) (Kd.R_far (p:=⟨gb356,0,none⟩) (Kd.R_mono HO_7.out (fun k_ hk=>(⟨hk,hk.2⟩ : _ ∧ k_ ≠ gb356))) (fun _ hk=>hk.2) (.int .i64 ((rd_T26 l1 x20_1).f0))) (fun _ hk=>hk.2) (.int .i64 ((rd_T26 l1 x20_1).f1.f0))) (fun _ hk=>hk.2) (.int .i64 ((rd_T26 l1 x20_1).f1.f1))) (fun _ hk=>hk.2) (.int .i64 ((rd_T26 l1 x20_1).f2.f0))) (fun _ hk=>hk.2) (.int .i64 ((rd_T26 l1 x20_1).f2.f1))) (fun _ h_=>h_.1))));(case side2=>exact (Kd.R_reads' HO_7.out).2.1);rintro e w19 ⟨rfl,hb⟩;refine ⟨_,rfl,?_⟩;have n0_:=Aside0.mk (Kd.R_below (by (with_reducible repeat (first|apply Kd.R_alloc|apply Kd.R_drewN|apply Kd.R_drew));exact (Kd.R_mono (Kd.R_far (p:=⟨gb356,4,none⟩) (Kd.R_far (p:=⟨gb356,3,none⟩) (Kd.R_far (p:=⟨gb356,2,none⟩) (Kd.R_far (p:=⟨gb356,1,none⟩) (Kd.R_far (p:=⟨gb356,0,none⟩) (Kd.R_mono HO_7.out (fun k_ hk=>(⟨hk,hk.2⟩ : _ ∧ k_ ≠ gb356))) (fun _ hk=>hk.2) (.int .i64 ((rd_T26 l1 x20_1).f0))) (fun _ hk=>hk.2) (.int .i64 ((rd_T26 l1 x20_1).f1.f0))) (fun _ hk=>hk.2) (.int .i64 ((rd_T26 l1 x20_1).f1.f1))) (fun _ hk=>hk.2) (.int .i64 ((rd_T26 l1 x20_1).f2.f0))) (fun _ hk=>hk.2) (.int .i64 ((rd_T26 l1 x20_1).f2.f1))) (fun _ h_=>h_.1))) hb);have n1_:=Aside0.mk (blk_below (g:=gb356) (o:=.cells #[.int .i64 ((rd_T26 l1 x20_1).f0),.int .i64 ((rd_T26 l1 x20_1).f1.f0),.int .i64 ((rd_T26 l1 x20_1).f1.f1),.int .i64 ((rd_T26 l1 x20_1).f2.f0),.int .i64 ((rd_T26 l1 x20_1).f2.f1)] 26 (0,0)) (by (with_reducible repeat (first|refine blk_drewN ?_ _|refine blk_drew ?_|refine blk_alloc ?_ _));refine blk_put (cs:=#[.int .i64 ((rd_T26 l1 x20_1).f0),.int .i64 ((rd_T26 l1 x20_1).f1.f0),.int .i64 ((rd_T26 l1 x20_1).f1.f1),.int .i64 ((rd_T26 l1 x20_1).f2.f0),.int .i64 0]) ?_ 4 _ rfl;(with_reducible repeat (first|refine blk_drewN ?_ _|refine blk_drew ?_|refine blk_alloc ?_ _));refine blk_put (cs:=#[.int .i64 ((rd_T26 l1 x20_1).f0),.int .i64 ((rd_T26 l1 x20_1).f1.f0),.int .i64 ((rd_T26 l1 x20_1).f1.f1),.int .i64 0,.int .i64 0]) ?_ 3 _ rfl;(with_reducible repeat (first|refine blk_drewN ?_ _|refine blk_drew ?_|refine blk_alloc ?_ _));refine blk_put (cs:=#[.int .i64 ((rd_T26 l1 x20_1).f0),.int .i64 ((rd_T26 l1 x20_1).f1.f0),.int .i64 0,.int .i64 0,.int .i64 0]) ?_ 2 _ rfl;(with_reducible repeat (first|refine blk_drewN ?_ _|refine blk_drew ?_|refine blk_alloc ?_ _));refine blk_put (cs:=#[.int .i64 ((rd_T26 l1 x20_1).f0),.int .i64 0,.int .i64 0,.int .i64 0,.int .i64 0]) ?_ 1 _ rfl;(with_reducible repeat (first|refine blk_drewN ?_ _|refine blk_drew ?_|refine blk_alloc ?_ _));refine blk_put (cs:=#[.int .i64 0,.int .i64 0,.int .i64 0,.int .i64 0,.int .i64 0]) ?_ 0 _ rfl;(with_reducible repeat (first|refine blk_drewN ?_ _|refine blk_drew ?_|refine blk_alloc ?_ _));exact BK356.out) hb);have n2_:=Aside0.mk (below_step (by repeat (first|(with_reducible first|exact HB.out|apply below_alloc|apply pw_below_drewN|apply below_drew1|refine below_set ?_ GE356.out)|exact HB.out)) hb);clear HO_7;clear BK356;clear HB;have HO_7:=n0_;have BK356:=n1_;have HB:=n2_;clear n0_ n1_ n2_;(try clear hb);(try clear hb2);(try clear hk);(try clear hi);have hcz20_0 : w19.cell? ⟨gb356,0,none⟩ = some (.int .i64 ((rd_T26 l1 x20_1).f0)):=(blk_cell BK356.out 0).trans rfl;have hcz20_1 : w19.cell? ⟨gb356,1,none⟩ = some (.int .i64 ((rd_T26 l1 x20_1).f1.f0)):=(blk_cell BK356.out 1).trans rfl;have hcz20_2 : w19.cell? ⟨gb356,2,none⟩ = some (.int .i64 ((rd_T26 l1 x20_1).f1.f1)):=(blk_cell BK356.out 2).trans rfl;have hcz20_3 : w19.cell? ⟨gb356,3,none⟩ = some (.int .i64 ((rd_T26 l1 x20_1).f2.f0)):=(blk_cell BK356.out 3).trans rfl;have hcz20_4 : w19.cell? ⟨gb356,4,none⟩ = some (.int .i64 ((rd_T26 l1 x20_1).f2.f1)):=(blk_cell BK356.out 4).trans rfl;have hfz20_0:=blk_frozen BK356.out 0;have hfz20_1:=blk_frozen BK356.out 1;have hfz20_2:=blk_frozen BK356.out 2;have hfz20_3:=blk_frozen BK356.out 3;have hfz20_4:=blk_frozen BK356.out 4)|((with_reducible refine gate_builtin (b:=.append) (xs:=#[.tmp 33,.tmp 35]) rfl ?_);at_builtin;refine Kd.R_append k26 (w0:=w) w.heap.size rfl (.tmp 33) (.tmp 35) 22 26 (.agg #[(.int .i64 0),(.int .i64 0),(.int .i64 0),(.int .i64 0),(.int .i64 0)]) 40 rfl Try.underlying22 info26 rfl (by decide) (by omega) (.slice Ao18 x7_1.length co18) x7_1 (⟨(rd_T26 l1 x20_1).f0,(⟨(rd_T26 l1 x20_1).f1.f0,(rd_T26 l1 x20_1).f1.f1⟩ : S24),(⟨(rd_T26 l1 x20_1).f2.f0,(rd_T26 l1 x20_1).f2.f1⟩ : S24)⟩ : S26) [.int .i64 ((rd_T26 l1 x20_1).f0),.int .i64 ((rd_T26 l1 x20_1).f1.f0),.int .i64 ((rd_T26 l1 x20_1).f1.f1),.int .i64 ((rd_T26 l1 x20_1).f2.f0),.int .i64 ((rd_T26 l1 x20_1).f2.f1)] (fun k_=>k_ ≠ gb356) (fun _=>False) rfl rfl ?aP (fun _ hk=>hk.elim) ?aF ?aO ?aB ?aS ?aL ?_;(case aP=>exact k26_mkM _ _ _ (⟨(rd_T26 l1 x20_1).f0,(⟨(rd_T26 l1 x20_1).f1.f0,(rd_T26 l1 x20_1).f1.f1⟩ : S24),(⟨(rd_T26 l1 x20_1).f2.f0,(rd_T26 l1 x20_1).f2.f1⟩ : S24)⟩ : S26));(case aB=>exact (by repeat (first|(with_reducible first|exact HB.out|apply below_alloc|apply pw_below_drewN|apply below_drew1|refine below_set ?_ GE356.out)|exact HB.out)));(case aF=>exact (fun k_ hk=>Kd.freshB (g:=gb356) (o:=.cells #[.int .i64 ((rd_T26 l1 x20_1).f0),.int .i64 ((rd_T26 l1 x20_1).f1.f0),.int .i64 ((rd_T26 l1 x20_1).f1.f1),.int .i64 ((rd_T26 l1 x20_1).f2.f0),.int .i64 ((rd_T26 l1 x20_1).f2.f1)] 26 (0,0)) (by (with_reducible repeat (first|refine blk_drewN ?_ _|refine blk_drew ?_|refine blk_alloc ?_ _));exact BK356.out) k_ hk));(case aO=>exact (by (with_reducible repeat (first|apply Kd.R_alloc|apply Kd.R_drewN|apply Kd.R_drew));exact Kd.R_mono HO_7.out (fun _ hk=>hk.2)));(case aS=>exact (below_size (by repeat (first|(with_reducible first|exact HB.out|apply below_alloc|apply pw_below_drewN|apply below_drew1|refine below_set ?_ GE356.out)|exact HB.out))));(case aL=>have:=LMc15.out;omega);intro v360 w21 ho hb hg hat;rw [← Ny359.out] at ho;have n0_:=Aside0.mk (blk_grown (g:=gb356) (o:=.cells #[.int .i64 ((rd_T26 l1 x20_1).f0),.int .i64 ((rd_T26 l1 x20_1).f1.f0),.int .i64 ((rd_T26 l1 x20_1).f1.f1),.int .i64 ((rd_T26 l1 x20_1).f2.f0),.int .i64 ((rd_T26 l1 x20_1).f2.f1)] 26 (0,0)) (by (with_reducible repeat (first|refine blk_drewN ?_ _|refine blk_drew ?_|refine blk_alloc ?_ _));exact BK356.out) hg (Kd.R_away HO_7.out (fun _ hk=>hk.2)));have n1_:=Aside0.mk (hb);have n2_:=Aside0.mk (ho);clear BK356;clear HB;clear HO_7;have BK356:=n0_;have HB:=n1_;have HO361:=n2_;clear n0_ n1_ n2_;clear ho hb hg hat))
         go_roundg k1
         case measure=>have:=HK1.out;omega
         case rel=>exact ⟨(y359),(wrap64 (x20_1 + 1)),(by first|rfl|(simp;done)|(simp [*];done)),H',⟨by have:=HK1.out;omega⟩,⟨by (with_reducible repeat (first|apply Kd.R_alloc|apply Kd.R_drewN|apply Kd.R_drew));exact Kd.R_mono HO361.out (fun _ hk=>trivial)⟩,⟨by repeat (first|(with_reducible first|exact HB.out|apply below_alloc|apply pw_below_drewN|apply below_drew1|refine below_set ?_ GE356.out)|exact HB.out)⟩⟩
        ·rw [if_neg c15] at H
         exact absurd H (by simp)
      ·rw [if_neg c8] at H
       exact absurd H (by simp)
     ·rw [if_neg c7] at H
      exact absurd H (by simp)
    ·rw [if_neg c6] at H
     have c6b0 : decide (x20_1 < (l1.length : Int)) = false:=decide_eq_false c6
     clear c6
     simp only [Option.some.injEq,Prod.mk.injEq] at H
     obtain ⟨rfl,rfl⟩:=H
     go_wp2
     go_ret2
     exact ⟨_,by first|rfl|(simp [errW_none,errW_some] <;> rfl)|(simp [*,errW_none,errW_some] <;> rfl),by (with_reducible repeat (first|apply Kd.R_alloc|apply Kd.R_drewN|apply Kd.R_drew));exact HO_7.out,by repeat (first|(with_reducible first|exact HB.out|apply below_alloc|apply pw_below_drewN|apply below_drew1)|exact HB.out)⟩
 ·rw [if_neg c4] at H
  have c4b0 : (t354 == 0) = false:=beq_eq_false_iff_ne.mpr c4
  have c4b1 : (t354 != 0) = true:=bne_iff_ne.mpr c4
  simp only [Option.some.injEq,Prod.mk.injEq] at H
  obtain ⟨rfl,rfl⟩:=H
  go_enter Try.func20,Try.ntmps20
  go_wp2_with (first|((with_reducible refine gate_callee (f:=30) rfl ?_);refine goesL_ (some 14) rfl rfl Try.func30 (by kernel_rfl) rfl #[.int .i64 a0,.slice A1 l1.length c1] rfl (by (try simp only [List.map_toArray,List.map_cons,List.map_nil]);first|done|rfl|(simp only [List.length_drop,List.length_take];rfl)) ?_;(with_reducible refine (difference_Valid.calls k a0 _ _ l1 t354 _ ?side1 ?side2 A3.out).mono ?_);(case side1=>repeat (first|exact HR1.out|(with_reducible refine Kd.C_alloc ?_ _)|(with_reducible refine Kd.C_drewN ?_ _)|(with_reducible refine Kd.C_drew ?_)));(case side2=>exact HC1.out);rintro e w22 ⟨rfl,hb⟩;refine ⟨_,rfl,?_⟩;have n0_:=Aside0.mk (below_step (by repeat (first|(with_reducible first|exact HB.out|apply below_alloc|apply pw_below_drewN|apply below_drew1)|exact HB.out)) hb);clear HB;have HB:=n0_;clear n0_;(try clear hb);(try clear hb2);(try clear hk);(try clear hi)))
  go_ret2
  exact ⟨_,by first|rfl|(simp [errW_none,errW_some] <;> rfl)|(simp [*,errW_none,errW_some] <;> rfl),by first|exact Kd.R_nil _ _ _ _ _|exact Kd.N_nil _ _ _ _ _|exact Kd.V_nil _ _ _ _ _|exact Kd.Q_nil _ _ _ _ _|exact Kd.S_nil _ _ _ _ _,by repeat (first|(with_reducible first|exact HB.out|apply below_alloc|apply pw_below_drewN|apply below_drew1)|exact HB.out)⟩

/-! ### scarfjointref03_Reduce: function 21 -/
def scarfjointref03_Reduce.l0 : Nat → Int → List (S26) → List (S26) → Int → Option ((List (S26)) × Int)
 | 0,_,_,_,_ => none
 | k + 1,x0,x1,x7,x8 => if x8 < (x1.length : Int) then (if 0 ≤ x8 then ((scarfjointref03_Implies.f k x0 x7 ((rd_T26 x1 x8).f0) ((rd_T26 x1 x8).f1.f0) ((rd_T26 x1 x8).f1.f1) ((rd_T26 x1 x8).f2.f0) ((rd_T26 x1 x8).f2.f1)).bind fun bt364 => (if bt364.1 = true then (scarfjointref03_Reduce.l0 k x0 x1 x7 (wrap64 (x8 + 1))) else (if x7.length < 3518437208883 then (scarfjointref03_Reduce.l0 k x0 x1 (x7 ++ [(⟨(rd_T26 x1 x8).f0,(⟨(rd_T26 x1 x8).f1.f0,(rd_T26 x1 x8).f1.f1⟩ : S24),(⟨(rd_T26 x1 x8).f2.f0,(rd_T26 x1 x8).f2.f1⟩ : S24)⟩ : S26)]) (wrap64 (x8 + 1))) else (none)))) else (none)) else (some (x7,0))
def scarfjointref03_Reduce.f (k : Nat) (a0 : Int) (l1 : List (S26)) : Option ((List (S26)) × Int):=(scarfjointref03_Valid.f k a0 l1).bind fun t362=>(if t362 = 0 then (scarfjointref03_Reduce.l0 k a0 l1 ([] : List (S26)) 0) else (some (([] : List (S26)),t362)))
theorem scarfjointref03_Reduce.mono_l : ∀ k,(∀ y0 y1 y2 y3,LeO (scarfjointref03_Reduce.l0 k y0 y1 y2 y3) (scarfjointref03_Reduce.l0 (k + 1) y0 y1 y2 y3))
 | 0 => fun _ _ _ _ r h => by simp [scarfjointref03_Reduce.l0] at h
 | k + 1 => by
  have ih0:=scarfjointref03_Reduce.mono_l k
  ·intro y0 y1 y2 y3
   unfold scarfjointref03_Reduce.l0
   repeat' first
   | (with_reducible exact ih0 _ _ _ _)
   | (with_reducible exact scarfjointref03_Implies.mono _ _ _ _ _ _ _ _)
   | (with_reducible exact scarfjointref03_Valid.mono _ _ _)
   | (with_reducible exact LeO.refl _)
   | (with_reducible exact LeO.none _)
   | (with_reducible refine LeO.ite ?_ ?_)
   | (with_reducible refine LeO.bind ?_ (fun _ => ?_))
   | exact ih0 _ _ _ _
   | exact scarfjointref03_Implies.mono _ _ _ _ _ _ _ _
   | exact scarfjointref03_Valid.mono _ _ _
   | exact LeO.none _
   | refine LeO.ite ?_ ?_
   | refine LeO.bind ?_ (fun _ => ?_)
theorem scarfjointref03_Reduce.mono : ∀ a0 a1 k,LeO (scarfjointref03_Reduce.f k a0 a1) (scarfjointref03_Reduce.f (k + 1) a0 a1):=by
 intro a0 a1 k
 have ih0:=scarfjointref03_Reduce.mono_l k
 unfold scarfjointref03_Reduce.f
 repeat' first
   | (with_reducible exact ih0 _ _ _ _)
   | (with_reducible exact scarfjointref03_Implies.mono _ _ _ _ _ _ _ _)
   | (with_reducible exact scarfjointref03_Valid.mono _ _ _)
   | (with_reducible exact LeO.refl _)
   | (with_reducible exact LeO.none _)
   | (with_reducible refine LeO.ite ?_ ?_)
   | (with_reducible refine LeO.bind ?_ (fun _ => ?_))
   | exact ih0 _ _ _ _
   | exact scarfjointref03_Implies.mono _ _ _ _ _ _ _ _
   | exact scarfjointref03_Valid.mono _ _ _
   | exact LeO.none _
   | refine LeO.ite ?_ ?_
   | refine LeO.bind ?_ (fun _ => ?_)
set_option maxHeartbeats 8000000 in
set_option maxRecDepth 100000 in
theorem scarfjointref03_Reduce.calls (k : Nat) (a0 : Int) (A1 : Option Addr) (c1 : Nat) (l1 : List (S26)) (r1 : List (S26)) (r2 : Int) (w : World) (hr1 : Kd.C k26 w A1 l1.length l1) (hc1 : l1.length ≤ c1) (h : scarfjointref03_Reduce.f k a0 l1 = some (r1,r2)) :
  Calls Try.prog 21 #[.int .i64 a0,.slice A1 l1.length c1] w fun e w'=>∃ v0_ : Value,e = .returned (.tuple #[v0_,.int .i64 r2]) ∧ Kd.R k26 26 w' w.heap.size (fun _=>True) v0_ r1 ∧ Below w.heap.size w w':=by
 have hu26:=Try.underlying26
 have HR1:=Aside0.mk hr1
 have HC1:=Aside0.mk hc1
 clear hr1 hc1
 have HB:=Aside0.mk (Below.refl w.heap.size w)
 have H : ((scarfjointref03_Valid.f k a0 l1).bind fun t362=>(if t362 = 0 then (scarfjointref03_Reduce.l0 k a0 l1 ([] : List (S26)) 0) else (some (([] : List (S26)),t362)))) = some (r1,r2):=h
 clear h
 replace H:=Option.bind_eq_some_iff.mp H
 obtain ⟨t362,A30,H⟩:=H
 replace H : (if t362 = 0 then (scarfjointref03_Reduce.l0 k a0 l1 ([] : List (S26)) 0) else (some (([] : List (S26)),t362))) = some (r1,r2):=H
 have A3:=Aside0.mk A30
 clear A30
 by_cases c4 : t362 = 0
 ·rw [if_pos c4] at H
  have c4b0 : (t362 == 0) = true:=beq_iff_eq.mpr c4
  have c4b1 : (t362 != 0) = false:=bne_eq_false_iff_eq.mpr c4
  clear c4
  have H':=Aside0.mk H
  clear H
  go_enter Try.func21,Try.ntmps21
  go_wp2_with (first|((with_reducible refine gate_callee (f:=31) rfl ?_);refine goesL_ (some 13) rfl rfl Try.func31 (by kernel_rfl) rfl #[.int .i64 a0,.slice A1 l1.length c1] rfl (by (try simp only [List.map_toArray,List.map_cons,List.map_nil]);first|done|rfl|(simp only [List.length_drop,List.length_take];rfl)) ?_;(with_reducible refine (scarfjointref03_Valid.calls k a0 _ _ l1 t362 _ ?side1 ?side2 A3.out).mono ?_);(case side1=>repeat (first|exact HR1.out|(with_reducible refine Kd.C_alloc ?_ _)|(with_reducible refine Kd.C_drewN ?_ _)|(with_reducible refine Kd.C_drew ?_)));(case side2=>exact HC1.out);rintro e w5 ⟨rfl,hb⟩;refine ⟨_,rfl,?_⟩;have n0_:=Aside0.mk (below_step (by repeat (first|(with_reducible first|exact HB.out|apply below_alloc|apply pw_below_drewN|apply below_drew1)|exact HB.out)) hb);clear HB;have HB:=n0_;clear n0_;(try clear hb);(try clear hb2);(try clear hk);(try clear hi)))
  go_loopg [7,8] k (fun kq v7 v8 w'=>∃ (x7_1 : List (S26)) (x8_1 : Int),v8 = .int .i64 x8_1 ∧ Aside0 (scarfjointref03_Reduce.l0 kq a0 l1 x7_1 x8_1 = some (r1,r2)) ∧ Aside0 (kq ≤ k) ∧ Aside0 (Kd.R k26 26 w' w.heap.size (fun _=>True) v7 x7_1) ∧ Aside0 (Below w.heap.size w w'))
  case atStart=>exact ⟨(([] : List (S26))),(0),(by first|rfl|(simp;done)|(simp [*];done)),H',⟨Nat.le_refl _⟩,⟨by first|exact Kd.R_nil _ _ _ _ _|exact Kd.N_nil _ _ _ _ _|exact Kd.V_nil _ _ _ _ _|exact Kd.Q_nil _ _ _ _ _|exact Kd.S_nil _ _ _ _ _⟩,⟨by repeat (first|(with_reducible first|exact HB.out|apply below_alloc|apply pw_below_drewN|apply below_drew1)|exact HB.out)⟩⟩
  case round =>
   clear H'
   try clear c1
   try clear c2
   try clear p2
   try clear c3
   try clear c4
   try clear c4b0
   try clear c4b1
   obtain ⟨x7_1,x8_1,rfl,HA,HK1,HO_7,HB⟩:=hrel
   cases gk with
   | zero => exact absurd HA.out (by simp [scarfjointref03_Reduce.l0])
   | succ k1 =>
    have H:=HA.out
    clear HA
    simp only [scarfjointref03_Reduce.l0] at H
    by_cases c6 : x8_1 < (l1.length : Int)
    ·rw [if_pos c6] at H
     have c6b0 : decide (x8_1 < (l1.length : Int)) = true:=decide_eq_true c6
     clear c6
     by_cases c7 : 0 ≤ x8_1
     ·rw [if_pos c7] at H
      have c7b0 : decide (0 ≤ x8_1) = true:=decide_eq_true c7
      clear c7
      replace H:=Option.bind_eq_some_iff.mp H
      obtain ⟨⟨t364,t365⟩,A80,H⟩:=H
      replace H : (if t364 = true then (scarfjointref03_Reduce.l0 k1 a0 l1 x7_1 (wrap64 (x8_1 + 1))) else (if x7_1.length < 3518437208883 then (scarfjointref03_Reduce.l0 k1 a0 l1 (x7_1 ++ [(⟨(rd_T26 l1 x8_1).f0,(⟨(rd_T26 l1 x8_1).f1.f0,(rd_T26 l1 x8_1).f1.f1⟩ : S24),(⟨(rd_T26 l1 x8_1).f2.f0,(rd_T26 l1 x8_1).f2.f1⟩ : S24)⟩ : S26)]) (wrap64 (x8_1 + 1))) else (none))) = some (r1,r2):=H
      have A8:=Aside0.mk A80
      clear A80
      by_cases c9 : t364 = true
      ·subst c9
       have H1 : (scarfjointref03_Reduce.l0 k1 a0 l1 x7_1 (wrap64 (x8_1 + 1))) = some (r1,r2):=by rw [if_pos rfl] at H;exact H
       clear H
       have H:=H1
       clear H1
       have H':=Aside0.mk H
       clear H
       have p363 : 0 ≤ (x8_1 : Int):=of_decide_eq_true (by first|(with_reducible assumption)|assumption)
       have q363 : x8_1 < (l1.length : Int):=of_decide_eq_true (by first|(with_reducible assumption)|assumption)
       obtain ⟨ad363,e363,hx363_0,hx363_1,hx363_2,hx363_3,hx363_4⟩:=at_T26 HR1.out x8_1 p363 q363
       cases e363
       replace hx363_0:=(HB.out.cell (World.block_lt_of_cell? w _ hx363_0)).trans hx363_0
       replace hx363_1:=(HB.out.cell (World.block_lt_of_cell? w _ hx363_1)).trans hx363_1
       replace hx363_2:=(HB.out.cell (World.block_lt_of_cell? w _ hx363_2)).trans hx363_2
       replace hx363_3:=(HB.out.cell (World.block_lt_of_cell? w _ hx363_3)).trans hx363_3
       replace hx363_4:=(HB.out.cell (World.block_lt_of_cell? w _ hx363_4)).trans hx363_4
       replace p363:=eq_true p363
       replace q363:=eq_true q363
       obtain ⟨Ao10,co10,eo10⟩:=Kd.R_slice HO_7.out
       subst eo10
       go_wp2_with (first|((with_reducible refine gate_callee (f:=15) rfl ?_);refine goesL_ (some 30) rfl rfl Try.func15 (by kernel_rfl) rfl #[.int .i64 a0,.slice Ao10 x7_1.length co10,.agg #[.int .i64 ((rd_T26 l1 x8_1).f0),.int .i64 ((rd_T26 l1 x8_1).f1.f0),.int .i64 ((rd_T26 l1 x8_1).f1.f1),.int .i64 ((rd_T26 l1 x8_1).f2.f0),.int .i64 ((rd_T26 l1 x8_1).f2.f1)]] rfl (by (try simp only [List.map_toArray,List.map_cons,List.map_nil]);first|done|rfl|(simp only [List.length_drop,List.length_take];rfl)) ?_;(with_reducible refine (scarfjointref03_Implies.calls k1 a0 _ _ x7_1 ((rd_T26 l1 x8_1).f0) ((rd_T26 l1 x8_1).f1.f0) ((rd_T26 l1 x8_1).f1.f1) ((rd_T26 l1 x8_1).f2.f0) ((rd_T26 l1 x8_1).f2.f1) true t365 _ ?side1 ?side2 A8.out).mono ?_);(case side1=>repeat (first|exact (Kd.R_reads' HO_7.out).2.2|(with_reducible refine Kd.C_alloc ?_ _)|(with_reducible refine Kd.C_drewN ?_ _)|(with_reducible refine Kd.C_drew ?_)));(case side2=>exact (Kd.R_reads' HO_7.out).2.1);rintro e w11 ⟨rfl,hb⟩;refine ⟨_,rfl,?_⟩;have n0_:=Aside0.mk (Kd.R_below (by (with_reducible repeat (first|apply Kd.R_alloc|apply Kd.R_drewN|apply Kd.R_drew));exact HO_7.out) hb);have n1_:=Aside0.mk (below_step (by repeat (first|(with_reducible first|exact HB.out|apply below_alloc|apply pw_below_drewN|apply below_drew1)|exact HB.out)) hb);clear HO_7;clear HB;have HO_7:=n0_;have HB:=n1_;clear n0_ n1_;(try clear hb);(try clear hb2);(try clear hk);(try clear hi)))
       go_roundg k1
       case measure=>have:=HK1.out;omega
       case rel=>exact ⟨(x7_1),(wrap64 (x8_1 + 1)),(by first|rfl|(simp;done)|(simp [*];done)),H',⟨by have:=HK1.out;omega⟩,⟨by (with_reducible repeat (first|apply Kd.R_alloc|apply Kd.R_drewN|apply Kd.R_drew));exact HO_7.out⟩,⟨by repeat (first|(with_reducible first|exact HB.out|apply below_alloc|apply pw_below_drewN|apply below_drew1)|exact HB.out)⟩⟩
      ·replace c9:=Bool.eq_false_iff.mpr c9
       subst c9
       have H1 : (if x7_1.length < 3518437208883 then (scarfjointref03_Reduce.l0 k1 a0 l1 (x7_1 ++ [(⟨(rd_T26 l1 x8_1).f0,(⟨(rd_T26 l1 x8_1).f1.f0,(rd_T26 l1 x8_1).f1.f1⟩ : S24),(⟨(rd_T26 l1 x8_1).f2.f0,(rd_T26 l1 x8_1).f2.f1⟩ : S24)⟩ : S26)]) (wrap64 (x8_1 + 1))) else (none)) = some (r1,r2):=by rw [if_neg (show ¬ (false = true) by decide)] at H;exact H
       clear H
       have H:=H1
       clear H1
       by_cases c12 : x7_1.length < 3518437208883
       ·rw [if_pos c12] at H
        have LMc12:=Aside0.mk c12
        clear c12
        obtain ⟨y367,hy367⟩ : ∃ y_ : List (S26),y_ = (x7_1 ++ [(⟨(rd_T26 l1 x8_1).f0,(⟨(rd_T26 l1 x8_1).f1.f0,(rd_T26 l1 x8_1).f1.f1⟩ : S24),(⟨(rd_T26 l1 x8_1).f2.f0,(rd_T26 l1 x8_1).f2.f1⟩ : S24)⟩ : S26)]):=⟨_,rfl⟩
        replace H : (scarfjointref03_Reduce.l0 k1 a0 l1 y367 (wrap64 (x8_1 + 1))) = some (r1,r2):=by first|(rw [hy367];with_reducible exact H)|(have H2_:=(Option.bind_some _ _).symm.trans H;rw [hy367];with_reducible exact H2_)|(have H2_:=(Option.bind_some _ _).symm.trans H;with_reducible exact H2_)|with_reducible exact H|(rw [hy367];exact H)|exact H
        have Ny367:=Aside0.mk hy367
        clear hy367
        have H':=Aside0.mk H
        clear H
        have p363 : 0 ≤ (x8_1 : Int):=of_decide_eq_true (by first|(with_reducible assumption)|assumption)
        have q363 : x8_1 < (l1.length : Int):=of_decide_eq_true (by first|(with_reducible assumption)|assumption)
        obtain ⟨ad363,e363,hx363_0,hx363_1,hx363_2,hx363_3,hx363_4⟩:=at_T26 HR1.out x8_1 p363 q363
        cases e363
        replace hx363_0:=(HB.out.cell (World.block_lt_of_cell? w _ hx363_0)).trans hx363_0
        replace hx363_1:=(HB.out.cell (World.block_lt_of_cell? w _ hx363_1)).trans hx363_1
        replace hx363_2:=(HB.out.cell (World.block_lt_of_cell? w _ hx363_2)).trans hx363_2
        replace hx363_3:=(HB.out.cell (World.block_lt_of_cell? w _ hx363_3)).trans hx363_3
        replace hx363_4:=(HB.out.cell (World.block_lt_of_cell? w _ hx363_4)).trans hx363_4
        replace p363:=eq_true p363
        replace q363:=eq_true q363
        obtain ⟨Ao13,co13,eo13⟩:=Kd.R_slice HO_7.out
        subst eo13
        go_wp2_with (first|((with_reducible refine gate_callee (f:=15) rfl ?_);refine goesL_ (some 30) rfl rfl Try.func15 (by kernel_rfl) rfl #[.int .i64 a0,.slice Ao13 x7_1.length co13,.agg #[.int .i64 ((rd_T26 l1 x8_1).f0),.int .i64 ((rd_T26 l1 x8_1).f1.f0),.int .i64 ((rd_T26 l1 x8_1).f1.f1),.int .i64 ((rd_T26 l1 x8_1).f2.f0),.int .i64 ((rd_T26 l1 x8_1).f2.f1)]] rfl (by (try simp only [List.map_toArray,List.map_cons,List.map_nil]);first|done|rfl|(simp only [List.length_drop,List.length_take];rfl)) ?_;(with_reducible refine (scarfjointref03_Implies.calls k1 a0 _ _ x7_1 ((rd_T26 l1 x8_1).f0) ((rd_T26 l1 x8_1).f1.f0) ((rd_T26 l1 x8_1).f1.f1) ((rd_T26 l1 x8_1).f2.f0) ((rd_T26 l1 x8_1).f2.f1) false t365 _ ?side1 ?side2 A8.out).mono ?_);(case side1=>repeat (first|exact (Kd.R_reads' HO_7.out).2.2|(with_reducible refine Kd.C_alloc ?_ _)|(with_reducible refine Kd.C_drewN ?_ _)|(with_reducible refine Kd.C_drew ?_)));(case side2=>exact (Kd.R_reads' HO_7.out).2.1);rintro e w14 ⟨rfl,hb⟩;refine ⟨_,rfl,?_⟩;have n0_:=Aside0.mk (Kd.R_below (by (with_reducible repeat (first|apply Kd.R_alloc|apply Kd.R_drewN|apply Kd.R_drew));exact HO_7.out) hb);have n1_:=Aside0.mk (below_step (by repeat (first|(with_reducible first|exact HB.out|apply below_alloc|apply pw_below_drewN|apply below_drew1)|exact HB.out)) hb);clear HO_7;clear HB;have HO_7:=n0_;have HB:=n1_;clear n0_ n1_;(try clear hb);(try clear hb2);(try clear hk);(try clear hi);have p366 : 0 ≤ (x8_1 : Int):=of_decide_eq_true (by first|(with_reducible assumption)|assumption);have q366 : x8_1 < (l1.length : Int):=of_decide_eq_true (by first|(with_reducible assumption)|assumption);obtain ⟨ad366,e366,hx366_0,hx366_1,hx366_2,hx366_3,hx366_4⟩:=at_T26 HR1.out x8_1 p366 q366;obtain rfl : ad363 = ad366:=(by injection e366);replace hx366_0:=(HB.out.cell (World.block_lt_of_cell? w _ hx366_0)).trans hx366_0;replace hx366_1:=(HB.out.cell (World.block_lt_of_cell? w _ hx366_1)).trans hx366_1;replace hx366_2:=(HB.out.cell (World.block_lt_of_cell? w _ hx366_2)).trans hx366_2;replace hx366_3:=(HB.out.cell (World.block_lt_of_cell? w _ hx366_3)).trans hx366_3;replace hx366_4:=(HB.out.cell (World.block_lt_of_cell? w _ hx366_4)).trans hx366_4;replace p366:=eq_true p366;replace q366:=eq_true q366)|((with_reducible refine gate_builtin (b:=.append) (xs:=#[.tmp 35,.tmp 40]) rfl ?_);at_builtin;refine Kd.R_append k26 (w0:=w) w.heap.size rfl (.tmp 35) (.tmp 40) 22 26 (.agg #[(.int .i64 0),(.int .i64 0),(.int .i64 0),(.int .i64 0),(.int .i64 0)]) 40 rfl Try.underlying22 info26 rfl (by decide) (by omega) (.slice Ao13 x7_1.length co13) x7_1 (⟨(rd_T26 l1 x8_1).f0,(⟨(rd_T26 l1 x8_1).f1.f0,(rd_T26 l1 x8_1).f1.f1⟩ : S24),(⟨(rd_T26 l1 x8_1).f2.f0,(rd_T26 l1 x8_1).f2.f1⟩ : S24)⟩ : S26) [.int .i64 ((rd_T26 l1 x8_1).f0),.int .i64 ((rd_T26 l1 x8_1).f1.f0),.int .i64 ((rd_T26 l1 x8_1).f1.f1),.int .i64 ((rd_T26 l1 x8_1).f2.f0),.int .i64 ((rd_T26 l1 x8_1).f2.f1)] (fun _=>True) (fun _=>False) rfl rfl ?aP (fun _ hk=>hk.elim) ?aF ?aO ?aB ?aS ?aL ?_;(case aP=>exact k26_mkM _ _ _ (⟨(rd_T26 l1 x8_1).f0,(⟨(rd_T26 l1 x8_1).f1.f0,(rd_T26 l1 x8_1).f1.f1⟩ : S24),(⟨(rd_T26 l1 x8_1).f2.f0,(rd_T26 l1 x8_1).f2.f1⟩ : S24)⟩ : S26));(case aB=>exact (by repeat (first|(with_reducible first|exact HB.out|apply below_alloc|apply pw_below_drewN|apply below_drew1)|exact HB.out)));(case aF=>exact (fun _ _=>trivial));(case aO=>exact (by (with_reducible repeat (first|apply Kd.R_alloc|apply Kd.R_drewN|apply Kd.R_drew));exact HO_7.out));(case aS=>exact (below_size (by repeat (first|(with_reducible first|exact HB.out|apply below_alloc|apply pw_below_drewN|apply below_drew1)|exact HB.out))));(case aL=>have:=LMc12.out;omega);intro v368 w15 ho hb hg hat;rw [← Ny367.out] at ho;have n0_:=Aside0.mk (hb);have n1_:=Aside0.mk (ho);clear HB;clear HO_7;have HB:=n0_;have HO369:=n1_;clear n0_ n1_;clear ho hb hg hat))
        go_roundg k1
        case measure=>have:=HK1.out;omega
        case rel=>exact ⟨(y367),(wrap64 (x8_1 + 1)),(by first|rfl|(simp;done)|(simp [*];done)),H',⟨by have:=HK1.out;omega⟩,⟨by (with_reducible repeat (first|apply Kd.R_alloc|apply Kd.R_drewN|apply Kd.R_drew));exact HO369.out⟩,⟨by repeat (first|(with_reducible first|exact HB.out|apply below_alloc|apply pw_below_drewN|apply below_drew1)|exact HB.out)⟩⟩
       ·rw [if_neg c12] at H
        exact absurd H (by simp)
     ·rw [if_neg c7] at H
      exact absurd H (by simp)
    ·rw [if_neg c6] at H
     have c6b0 : decide (x8_1 < (l1.length : Int)) = false:=decide_eq_false c6
     clear c6
     simp only [Option.some.injEq,Prod.mk.injEq] at H
     obtain ⟨rfl,rfl⟩:=H
     go_wp2
     go_ret2
     exact ⟨_,by first|rfl|(simp [errW_none,errW_some] <;> rfl)|(simp [*,errW_none,errW_some] <;> rfl),by (with_reducible repeat (first|apply Kd.R_alloc|apply Kd.R_drewN|apply Kd.R_drew));exact HO_7.out,by repeat (first|(with_reducible first|exact HB.out|apply below_alloc|apply pw_below_drewN|apply below_drew1)|exact HB.out)⟩
 ·rw [if_neg c4] at H
  have c4b0 : (t362 == 0) = false:=beq_eq_false_iff_ne.mpr c4
  have c4b1 : (t362 != 0) = true:=bne_iff_ne.mpr c4
  simp only [Option.some.injEq,Prod.mk.injEq] at H
  obtain ⟨rfl,rfl⟩:=H
  go_enter Try.func21,Try.ntmps21
  go_wp2_with (first|((with_reducible refine gate_callee (f:=31) rfl ?_);refine goesL_ (some 13) rfl rfl Try.func31 (by kernel_rfl) rfl #[.int .i64 a0,.slice A1 l1.length c1] rfl (by (try simp only [List.map_toArray,List.map_cons,List.map_nil]);first|done|rfl|(simp only [List.length_drop,List.length_take];rfl)) ?_;(with_reducible refine (scarfjointref03_Valid.calls k a0 _ _ l1 t362 _ ?side1 ?side2 A3.out).mono ?_);(case side1=>repeat (first|exact HR1.out|(with_reducible refine Kd.C_alloc ?_ _)|(with_reducible refine Kd.C_drewN ?_ _)|(with_reducible refine Kd.C_drew ?_)));(case side2=>exact HC1.out);rintro e w16 ⟨rfl,hb⟩;refine ⟨_,rfl,?_⟩;have n0_:=Aside0.mk (below_step (by repeat (first|(with_reducible first|exact HB.out|apply below_alloc|apply pw_below_drewN|apply below_drew1)|exact HB.out)) hb);clear HB;have HB:=n0_;clear n0_;(try clear hb);(try clear hb2);(try clear hk);(try clear hi)))
  go_ret2
  exact ⟨_,by first|rfl|(simp [errW_none,errW_some] <;> rfl)|(simp [*,errW_none,errW_some] <;> rfl),by first|exact Kd.R_nil _ _ _ _ _|exact Kd.N_nil _ _ _ _ _|exact Kd.V_nil _ _ _ _ _|exact Kd.Q_nil _ _ _ _ _|exact Kd.S_nil _ _ _ _ _,by repeat (first|(with_reducible first|exact HB.out|apply below_alloc|apply pw_below_drewN|apply below_drew1)|exact HB.out)⟩

end Go.Proofs.Yteebkkdbkkibmaa.Pr
