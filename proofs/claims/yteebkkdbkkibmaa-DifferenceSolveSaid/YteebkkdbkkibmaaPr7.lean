/- Functions of this claim and what their calls compute, written by wip/tools/mp.py, a variant of the kit printer. Conditions: each theorem has its own. -/
import Derived.Test.YteebkkdbkkibmaaPr0
import Derived.Test.YteebkkdbkkibmaaPr3
import Derived.Test.YteebkkdbkkibmaaPr4
import Derived.Test.YteebkkdbkkibmaaPr6
namespace Go.Proofs.Yteebkkdbkkibmaa.Pr
open Go.RowKit Go.Proofs.YteebkkdbkkibmaaW.PrintWords Go.Proofs.YteebkkdbkkibmaaW.PrintLast Go.Proofs.YteebkkdbkkibmaaW.PrintMore
attribute [local go_sem] max2_int min2_int max_two min_two max_three min_three max_four min_four   -- for this text's walks alone
set_option linter.unusedVariables false
set_option linter.unusedSimpArgs false

/-! ### difference_Implies: function 13 -/
def difference_Implies.l0 : Nat → Int → List (S26) → List (S71) → Int → Int → Option (Bool × Int)
 | 0,_,_,_,_,_ => none
 | k + 1,x0,x1,x26,x27,x28 => if x28 < x27 then (if 0 ≤ x28 then (if x28 < (x26.length : Int) then ((difference_arcs.f k x1).bind fun t156 => ((difference_implied.f k x0 t156 ((rd_T71 x26 x28).f0.f0) ((rd_T71 x26 x28).f0.f1) ((rd_T71 x26 x28).f1) ((rd_T71 x26 x28).f2) ((rd_T71 x26 x28).f3)).bind fun t159 => (if t159 = true then (difference_Implies.l0 k x0 x1 x26 x27 (wrap64 (x28 + 1))) else (some (false,0))))) else (none)) else (none)) else (some (true,0))
def difference_Implies.f (k : Nat) (a0 : Int) (l1 : List (S26)) (a2_0 : Int) (a2_1 : Int) (a2_2 : Int) (a2_3 : Int) (a2_4 : Int) : Option (Bool × Int):=(difference_Valid.f k a0 l1).bind fun t146=>(if t146 = 0 then ((difference_one.f k a0 a2_0 a2_1 a2_2 a2_3 a2_4).bind fun t147=>(if t147 = 0 then ((difference_arcs.f k (([(⟨a2_0,(⟨a2_1,a2_2⟩ : S24),(⟨a2_3,a2_4⟩ : S24)⟩ : S26)] : List (S26)))).bind fun t151=>(difference_Implies.l0 k a0 l1 t151 (t151.length : Int) 0)) else (some (false,t147)))) else (some (false,t146)))
theorem difference_Implies.mono_l : ∀ k,(∀ y0 y1 y2 y3 y4,LeO (difference_Implies.l0 k y0 y1 y2 y3 y4) (difference_Implies.l0 (k + 1) y0 y1 y2 y3 y4))
 | 0 => fun _ _ _ _ _ r h => by simp [difference_Implies.l0] at h
 | k + 1 => by
  have ih0:=difference_Implies.mono_l k
  ·intro y0 y1 y2 y3 y4
   unfold difference_Implies.l0
   repeat' first
   | (with_reducible exact ih0 _ _ _ _ _)
   | (with_reducible exact difference_Valid.mono _ _ _)
   | (with_reducible exact difference_arcs.mono _ _)
   | (with_reducible exact difference_implied.mono _ _ _ _ _ _ _ _)
   | (with_reducible exact difference_one.mono _ _ _ _ _ _ _)
   | (with_reducible exact LeO.refl _)
   | (with_reducible exact LeO.none _)
   | (with_reducible refine LeO.ite ?_ ?_)
   | (with_reducible refine LeO.bind ?_ (fun _ => ?_))
   | exact ih0 _ _ _ _ _
   | exact difference_Valid.mono _ _ _
   | exact difference_arcs.mono _ _
   | exact difference_implied.mono _ _ _ _ _ _ _ _
   | exact difference_one.mono _ _ _ _ _ _ _
   | exact LeO.none _
   | refine LeO.ite ?_ ?_
   | refine LeO.bind ?_ (fun _ => ?_)
theorem difference_Implies.mono : ∀ a0 a1 a2 a3 a4 a5 a6 k,LeO (difference_Implies.f k a0 a1 a2 a3 a4 a5 a6) (difference_Implies.f (k + 1) a0 a1 a2 a3 a4 a5 a6):=by
 intro a0 a1 a2 a3 a4 a5 a6 k
 have ih0:=difference_Implies.mono_l k
 unfold difference_Implies.f
 repeat' first
   | (with_reducible exact ih0 _ _ _ _ _)
   | (with_reducible exact difference_Valid.mono _ _ _)
   | (with_reducible exact difference_arcs.mono _ _)
   | (with_reducible exact difference_implied.mono _ _ _ _ _ _ _ _)
   | (with_reducible exact difference_one.mono _ _ _ _ _ _ _)
   | (with_reducible exact LeO.refl _)
   | (with_reducible exact LeO.none _)
   | (with_reducible refine LeO.ite ?_ ?_)
   | (with_reducible refine LeO.bind ?_ (fun _ => ?_))
   | exact ih0 _ _ _ _ _
   | exact difference_Valid.mono _ _ _
   | exact difference_arcs.mono _ _
   | exact difference_implied.mono _ _ _ _ _ _ _ _
   | exact difference_one.mono _ _ _ _ _ _ _
   | exact LeO.none _
   | refine LeO.ite ?_ ?_
   | refine LeO.bind ?_ (fun _ => ?_)
set_option maxHeartbeats 8000000 in
set_option maxRecDepth 100000 in
theorem difference_Implies.calls (k : Nat) (a0 : Int) (A1 : Option Addr) (c1 : Nat) (l1 : List (S26)) (a2_0 : Int) (a2_1 : Int) (a2_2 : Int) (a2_3 : Int) (a2_4 : Int) (r1 : Bool) (r2 : Int) (w : World) (hr1 : Kd.C k26 w A1 l1.length l1) (hc1 : l1.length ≤ c1) (h : difference_Implies.f k a0 l1 a2_0 a2_1 a2_2 a2_3 a2_4 = some (r1,r2)) :
  Calls Try.prog 13 #[.int .i64 a0,.slice A1 l1.length c1,.agg #[.int .i64 a2_0,.int .i64 a2_1,.int .i64 a2_2,.int .i64 a2_3,.int .i64 a2_4]] w fun e w'=>e = .returned (.tuple #[.bool r1,.int .i64 r2]) ∧ Below w.heap.size w w':=by
 have hu26:=Try.underlying26
 have hu71:=Try.underlying71
 have HR1:=Aside0.mk hr1
 have HC1:=Aside0.mk hc1
 clear hr1 hc1
 have HB:=Aside0.mk (Below.refl w.heap.size w)
 have H : ((difference_Valid.f k a0 l1).bind fun t146=>(if t146 = 0 then ((difference_one.f k a0 a2_0 a2_1 a2_2 a2_3 a2_4).bind fun t147=>(if t147 = 0 then ((difference_arcs.f k (([(⟨a2_0,(⟨a2_1,a2_2⟩ : S24),(⟨a2_3,a2_4⟩ : S24)⟩ : S26)] : List (S26)))).bind fun t151=>(difference_Implies.l0 k a0 l1 t151 (t151.length : Int) 0)) else (some (false,t147)))) else (some (false,t146)))) = some (r1,r2):=h
 clear h
 replace H:=Option.bind_eq_some_iff.mp H
 obtain ⟨t146,A40,H⟩:=H
 replace H : (if t146 = 0 then ((difference_one.f k a0 a2_0 a2_1 a2_2 a2_3 a2_4).bind fun t147=>(if t147 = 0 then ((difference_arcs.f k (([(⟨a2_0,(⟨a2_1,a2_2⟩ : S24),(⟨a2_3,a2_4⟩ : S24)⟩ : S26)] : List (S26)))).bind fun t151=>(difference_Implies.l0 k a0 l1 t151 (t151.length : Int) 0)) else (some (false,t147)))) else (some (false,t146))) = some (r1,r2):=H
 have A4:=Aside0.mk A40
 clear A40
 by_cases c5 : t146 = 0
 ·rw [if_pos c5] at H
  have c5b0 : (t146 == 0) = true:=beq_iff_eq.mpr c5
  have c5b1 : (t146 != 0) = false:=bne_eq_false_iff_eq.mpr c5
  clear c5
  replace H:=Option.bind_eq_some_iff.mp H
  obtain ⟨t147,A60,H⟩:=H
  replace H : (if t147 = 0 then ((difference_arcs.f k (([(⟨a2_0,(⟨a2_1,a2_2⟩ : S24),(⟨a2_3,a2_4⟩ : S24)⟩ : S26)] : List (S26)))).bind fun t151=>(difference_Implies.l0 k a0 l1 t151 (t151.length : Int) 0)) else (some (false,t147))) = some (r1,r2):=H
  have A6:=Aside0.mk A60
  clear A60
  by_cases c7 : t147 = 0
  ·rw [if_pos c7] at H
   have c7b0 : (t147 == 0) = true:=beq_iff_eq.mpr c7
   have c7b1 : (t147 != 0) = false:=bne_eq_false_iff_eq.mpr c7
   clear c7
   obtain ⟨y148,hy148⟩ : ∃ y_ : List (S26),y_ = (([(⟨a2_0,(⟨a2_1,a2_2⟩ : S24),(⟨a2_3,a2_4⟩ : S24)⟩ : S26)] : List (S26))):=⟨_,rfl⟩
   replace H : ((difference_arcs.f k y148).bind fun t151=>(difference_Implies.l0 k a0 l1 t151 (t151.length : Int) 0)) = some (r1,r2):=by first|(rw [hy148];with_reducible exact H)|(have H2_:=(Option.bind_some _ _).symm.trans H;rw [hy148];with_reducible exact H2_)|(have H2_:=(Option.bind_some _ _).symm.trans H;with_reducible exact H2_)|with_reducible exact H|(rw [hy148];exact H)|exact H
   have Ny148:=Aside0.mk hy148
   clear hy148
   replace H:=Option.bind_eq_some_iff.mp H
   obtain ⟨t151,A80,H⟩:=H
   replace H : (difference_Implies.l0 k a0 l1 t151 (t151.length : Int) 0) = some (r1,r2):=H
   have A8:=Aside0.mk A80
   clear A80
   have H':=Aside0.mk H
   clear H
   go_enter Try.func13,Try.ntmps13
   go_wp2_with (first|((with_reducible refine gate_dst (N:=5) rfl ?_);refine box_event ?hg (N:=5) ?hd (cs:=#[.int .i64 a2_0,.int .i64 a2_1,.int .i64 a2_2,.int .i64 a2_3,.int .i64 a2_4]) (t:=26) ?hr ?_;(case hd=>rfl);(case hg=>rfl);(case hr=>first|(go_simp;done)|(go_simp;rfl));intro gb145 hg w9 hbox hb;have n0_:=Aside0.mk (below_step (by repeat (first|(with_reducible first|exact HB.out|apply below_alloc|apply pw_below_drewN|apply below_drew1)|exact HB.out)) hb);have n1_:=Aside0.mk (hbox);have n2_:=Aside0.mk ((by rw [hg];exact (below_size (by repeat (first|(with_reducible first|exact HB.out|apply below_alloc|apply pw_below_drewN|apply below_drew1)|exact HB.out))) : w.heap.size ≤ gb145));have n3_:=Aside0.mk ((by rw [hg];exact (below_size (by repeat (first|(with_reducible first|exact HB.out|apply below_alloc|apply pw_below_drewN|apply below_drew1)|exact HB.out))) : w.heap.size ≤ gb145));clear HB;have HB:=n0_;have BK145:=n1_;have GW145:=n2_;have GE145:=n3_;clear n0_ n1_ n2_ n3_;clear hb hbox hg)|((with_reducible refine gate_callee (f:=30) rfl ?_);refine goesL_ (some 14) rfl rfl Try.func30 (by kernel_rfl) rfl #[.int .i64 a0,.slice A1 l1.length c1] rfl (by (try simp only [List.map_toArray,List.map_cons,List.map_nil]);first|done|rfl|(simp only [List.length_drop,List.length_take];rfl)) ?_;(with_reducible refine (difference_Valid.calls k a0 _ _ l1 t146 _ ?side1 ?side2 A4.out).mono ?_);(case side1=>repeat (first|exact (Kd.C_below HR1.out HB.out)|(with_reducible refine Kd.C_alloc ?_ _)|(with_reducible refine Kd.C_drewN ?_ _)|(with_reducible refine Kd.C_drew ?_)));(case side2=>exact HC1.out);rintro e w10 ⟨rfl,hb⟩;refine ⟨_,rfl,?_⟩;have n0_:=Aside0.mk (blk_below (g:=gb145) (o:=.cells #[.int .i64 a2_0,.int .i64 a2_1,.int .i64 a2_2,.int .i64 a2_3,.int .i64 a2_4] 26 (0,0)) (by (with_reducible repeat (first|refine blk_drewN ?_ _|refine blk_drew ?_|refine blk_alloc ?_ _));exact BK145.out) hb);have n1_:=Aside0.mk (below_step (by repeat (first|(with_reducible first|exact HB.out|apply below_alloc|apply pw_below_drewN|apply below_drew1|refine below_set ?_ GE145.out)|exact HB.out)) hb);clear BK145;clear HB;have BK145:=n0_;have HB:=n1_;clear n0_ n1_;(try clear hb);(try clear hb2);(try clear hk);(try clear hi);have hcz11_0 : w10.cell? ⟨gb145,0,none⟩ = some (.int .i64 a2_0):=(blk_cell BK145.out 0).trans rfl;have hcz11_1 : w10.cell? ⟨gb145,1,none⟩ = some (.int .i64 a2_1):=(blk_cell BK145.out 1).trans rfl;have hcz11_2 : w10.cell? ⟨gb145,2,none⟩ = some (.int .i64 a2_2):=(blk_cell BK145.out 2).trans rfl;have hcz11_3 : w10.cell? ⟨gb145,3,none⟩ = some (.int .i64 a2_3):=(blk_cell BK145.out 3).trans rfl;have hcz11_4 : w10.cell? ⟨gb145,4,none⟩ = some (.int .i64 a2_4):=(blk_cell BK145.out 4).trans rfl;have hfz11_0:=blk_frozen BK145.out 0;have hfz11_1:=blk_frozen BK145.out 1;have hfz11_2:=blk_frozen BK145.out 2;have hfz11_3:=blk_frozen BK145.out 3;have hfz11_4:=blk_frozen BK145.out 4)|((with_reducible refine gate_callee (f:=40) rfl ?_);refine goesL_ (some 20) rfl rfl Try.func40 (by kernel_rfl) rfl #[.int .i64 a0,.agg #[.int .i64 a2_0,.int .i64 a2_1,.int .i64 a2_2,.int .i64 a2_3,.int .i64 a2_4]] rfl (by (try simp only [List.map_toArray,List.map_cons,List.map_nil]);first|done|rfl|(simp only [List.length_drop,List.length_take];rfl)) ?_;(with_reducible refine (difference_one.calls k a0 a2_0 a2_1 a2_2 a2_3 a2_4 t147 _ A6.out).mono ?_);rintro e w12 ⟨rfl,hb⟩;refine ⟨_,rfl,?_⟩;have n0_:=Aside0.mk (blk_below (g:=gb145) (o:=.cells #[.int .i64 a2_0,.int .i64 a2_1,.int .i64 a2_2,.int .i64 a2_3,.int .i64 a2_4] 26 (0,0)) (by (with_reducible repeat (first|refine blk_drewN ?_ _|refine blk_drew ?_|refine blk_alloc ?_ _));exact BK145.out) hb);have n1_:=Aside0.mk (below_step (by repeat (first|(with_reducible first|exact HB.out|apply below_alloc|apply pw_below_drewN|apply below_drew1|refine below_set ?_ GE145.out)|exact HB.out)) hb);clear BK145;clear HB;have BK145:=n0_;have HB:=n1_;clear n0_ n1_;(try clear hb);(try clear hb2);(try clear hk);(try clear hi);have hcz13_0 : w12.cell? ⟨gb145,0,none⟩ = some (.int .i64 a2_0):=(blk_cell BK145.out 0).trans rfl;have hcz13_1 : w12.cell? ⟨gb145,1,none⟩ = some (.int .i64 a2_1):=(blk_cell BK145.out 1).trans rfl;have hcz13_2 : w12.cell? ⟨gb145,2,none⟩ = some (.int .i64 a2_2):=(blk_cell BK145.out 2).trans rfl;have hcz13_3 : w12.cell? ⟨gb145,3,none⟩ = some (.int .i64 a2_3):=(blk_cell BK145.out 3).trans rfl;have hcz13_4 : w12.cell? ⟨gb145,4,none⟩ = some (.int .i64 a2_4):=(blk_cell BK145.out 4).trans rfl;have hfz13_0:=blk_frozen BK145.out 0;have hfz13_1:=blk_frozen BK145.out 1;have hfz13_2:=blk_frozen BK145.out 2;have hfz13_3:=blk_frozen BK145.out 3;have hfz13_4:=blk_frozen BK145.out 4)|((with_reducible refine gate_dst (N:=25) rfl ?_);refine Kd.R_lit k26 _ 26 ?hg (N:=25) ?hd (xs:=([(⟨a2_0,(⟨a2_1,a2_2⟩ : S24),(⟨a2_3,a2_4⟩ : S24)⟩ : S26)] : List (S26))) (inner:=[.int .i64 a2_0,.int .i64 a2_1,.int .i64 a2_2,.int .i64 a2_3,.int .i64 a2_4]) (ok:=fun _=>True) (okp:=fun _=>True) ?hr ?hp (fun _ hk=>hk) trivial (Below.refl _ _) (Nat.le_refl _) (by simp) ?_;(case hd=>rfl);(case hg=>rfl);(case hr=>first|(go_simp;done)|(go_simp;rfl));(case hp=>exact (Reps.c5 (show Kd.M k26 _ _ _ (⟨a2_0,(⟨a2_1,a2_2⟩ : S24),(⟨a2_3,a2_4⟩ : S24)⟩ : S26) [.int .i64 a2_0,.int .i64 a2_1,.int .i64 a2_2,.int .i64 a2_3,.int .i64 a2_4] from (k26_mkM _ _ _ (⟨a2_0,(⟨a2_1,a2_2⟩ : S24),(⟨a2_3,a2_4⟩ : S24)⟩ : S26) )) (Reps.none _ _)));intro v149 w14 ho15 hb hg_ hnew_;clear hg_ hnew_;(first|rw [← Ny148.out] at ho15|(simp only [Int.reduceToNat] at ho15;rw [← Ny148.out] at ho15));have n0_:=Aside0.mk (Kd.R_lower (Kd.R_newB ho15 (g:=gb145) (o:=.cells #[.int .i64 a2_0,.int .i64 a2_1,.int .i64 a2_2,.int .i64 a2_3,.int .i64 a2_4] 26 (0,0)) (by (with_reducible repeat (first|refine blk_drewN ?_ _|refine blk_drew ?_|refine blk_alloc ?_ _));exact BK145.out)) (below_size (by repeat (first|(with_reducible first|exact HB.out|apply below_alloc|apply pw_below_drewN|apply below_drew1|refine below_set ?_ GE145.out)|exact HB.out))));have n1_:=Aside0.mk (blk_below (g:=gb145) (o:=.cells #[.int .i64 a2_0,.int .i64 a2_1,.int .i64 a2_2,.int .i64 a2_3,.int .i64 a2_4] 26 (0,0)) (by (with_reducible repeat (first|refine blk_drewN ?_ _|refine blk_drew ?_|refine blk_alloc ?_ _));exact BK145.out) hb);have n2_:=Aside0.mk (below_step (by repeat (first|(with_reducible first|exact HB.out|apply below_alloc|apply pw_below_drewN|apply below_drew1|refine below_set ?_ GE145.out)|exact HB.out)) hb);clear BK145;clear HB;have HO150:=n0_;have BK145:=n1_;have HB:=n2_;clear n0_ n1_ n2_;clear hb ho15;obtain ⟨Ao16,co16,eo16⟩:=Kd.R_slice HO150.out;subst eo16)|((with_reducible refine gate_callee (f:=41) rfl ?_);refine goesL_ (some 26) rfl rfl Try.func41 (by kernel_rfl) rfl #[.slice Ao16 y148.length co16] rfl (by (try simp only [List.map_toArray,List.map_cons,List.map_nil]);first|done|rfl|(simp only [List.length_drop,List.length_take];rfl)) ?_;(with_reducible refine (difference_arcs.calls k _ _ y148 t151 _ ?side1 ?side2 A8.out).mono ?_);(case side1=>repeat (first|exact (Kd.R_reads' HO150.out).2.2|(with_reducible refine Kd.C_alloc ?_ _)|(with_reducible refine Kd.C_drewN ?_ _)|(with_reducible refine Kd.C_drew ?_)));(case side2=>exact (Kd.R_reads' HO150.out).2.1);rintro e w17 ⟨v152,rfl,ho0,hb⟩;refine ⟨_,rfl,?_⟩;have n0_:=Aside0.mk (Kd.R_below (by (with_reducible repeat (first|apply Kd.R_alloc|apply Kd.R_drewN|apply Kd.R_drew));exact HO150.out) hb);have n1_:=Aside0.mk (Kd.R_lower ho0 (below_size (by repeat (first|(with_reducible first|exact HB.out|apply below_alloc|apply pw_below_drewN|apply below_drew1|refine below_set ?_ GE145.out)|exact HB.out))));have n2_:=Aside0.mk (blk_below (g:=gb145) (o:=.cells #[.int .i64 a2_0,.int .i64 a2_1,.int .i64 a2_2,.int .i64 a2_3,.int .i64 a2_4] 26 (0,0)) (by (with_reducible repeat (first|refine blk_drewN ?_ _|refine blk_drew ?_|refine blk_alloc ?_ _));exact BK145.out) hb);have n3_:=Aside0.mk (below_step (by repeat (first|(with_reducible first|exact HB.out|apply below_alloc|apply pw_below_drewN|apply below_drew1|refine below_set ?_ GE145.out)|exact HB.out)) hb);clear HO150;clear BK145;clear HB;have HO150:=n0_;have HO153:=n1_;have BK145:=n2_;have HB:=n3_;clear n0_ n1_ n2_ n3_;(try clear hb);(try clear hb2);(try clear hk);(try clear hi);(try clear ho0);obtain ⟨Ao18,co18,eo18⟩:=Kd.R_slice HO153.out;subst eo18))
   go_loopg [28] k (fun kq v28 w'=>∃ (x28_1 : Int),v28 = .int .i64 x28_1 ∧ Aside0 (difference_Implies.l0 kq a0 l1 t151 (t151.length : Int) x28_1 = some (r1,r2)) ∧ Aside0 (kq ≤ k) ∧ Aside0 (Kd.R k71 71 w' w.heap.size (fun _=>True) (.slice Ao18 t151.length co18) t151) ∧ Aside0 (w'.heap[gb145]? = some (.cells #[.int .i64 a2_0,.int .i64 a2_1,.int .i64 a2_2,.int .i64 a2_3,.int .i64 a2_4] 26 (0,0))) ∧ Aside0 (Below w.heap.size w w'))
   case atStart=>exact ⟨(0),(by first|rfl|(simp;done)|(simp [*];done)),H',⟨Nat.le_refl _⟩,⟨by (with_reducible repeat (first|apply Kd.R_alloc|apply Kd.R_drewN|apply Kd.R_drew));exact HO153.out⟩,⟨by (with_reducible repeat (first|refine blk_drewN ?_ _|refine blk_drew ?_|refine blk_alloc ?_ _));exact BK145.out⟩,⟨by repeat (first|(with_reducible first|exact HB.out|apply below_alloc|apply pw_below_drewN|apply below_drew1|refine below_set ?_ GE145.out)|exact HB.out)⟩⟩
   case round =>
    clear H'
    try clear c1
    try clear p2
    try clear c3
    try clear c4
    try clear c5
    try clear c5b0
    try clear c5b1
    try clear c7
    try clear c7b0
    try clear c7b1
    try clear c13
    try clear hcz11_0
    try clear hcz11_1
    try clear hcz11_2
    try clear hcz11_3
    try clear hcz11_4
    try clear hcz13_0
    try clear hcz13_1
    try clear hcz13_2
    try clear hcz13_3
    try clear hcz13_4
    try clear hfz11_0
    try clear hfz11_1
    try clear hfz11_2
    try clear hfz11_3
    try clear hfz11_4
    try clear hfz13_0
    try clear hfz13_1
    try clear hfz13_2
    try clear hfz13_3
    try clear hfz13_4
    obtain ⟨x28_1,rfl,HA,HK1,HO_26,BK145,HB⟩:=hrel
    cases gk with
    | zero => exact absurd HA.out (by simp [difference_Implies.l0])
    | succ k1 =>
     have H:=HA.out
     clear HA
     simp only [difference_Implies.l0] at H
     by_cases c19 : x28_1 < (t151.length : Int)
     ·rw [if_pos c19] at H
      have c19b0 : decide (x28_1 < (t151.length : Int)) = true:=decide_eq_true c19
      clear c19
      by_cases c20 : 0 ≤ x28_1
      ·rw [if_pos c20] at H
       have c20b0 : decide (0 ≤ x28_1) = true:=decide_eq_true c20
       clear c20
       by_cases c21 : x28_1 < (t151.length : Int)
       ·rw [if_pos c21] at H
        have c21b0 : decide (x28_1 < (t151.length : Int)) = true:=decide_eq_true c21
        clear c21
        replace H:=Option.bind_eq_some_iff.mp H
        obtain ⟨t156,A220,H⟩:=H
        replace H : ((difference_implied.f k1 a0 t156 ((rd_T71 t151 x28_1).f0.f0) ((rd_T71 t151 x28_1).f0.f1) ((rd_T71 t151 x28_1).f1) ((rd_T71 t151 x28_1).f2) ((rd_T71 t151 x28_1).f3)).bind fun t159=>(if t159 = true then (difference_Implies.l0 k1 a0 l1 t151 (t151.length : Int) (wrap64 (x28_1 + 1))) else (some (false,0)))) = some (r1,r2):=H
        have A22:=Aside0.mk A220
        clear A220
        replace H:=Option.bind_eq_some_iff.mp H
        obtain ⟨t159,A230,H⟩:=H
        replace H : (if t159 = true then (difference_Implies.l0 k1 a0 l1 t151 (t151.length : Int) (wrap64 (x28_1 + 1))) else (some (false,0))) = some (r1,r2):=H
        have A23:=Aside0.mk A230
        clear A230
        by_cases c24 : t159 = true
        ·subst c24
         have H1 : (difference_Implies.l0 k1 a0 l1 t151 (t151.length : Int) (wrap64 (x28_1 + 1))) = some (r1,r2):=by rw [if_pos rfl] at H;exact H
         clear H
         have H:=H1
         clear H1
         have H':=Aside0.mk H
         clear H
         have p154 : 0 ≤ (x28_1 : Int):=of_decide_eq_true (by first|(with_reducible assumption)|assumption)
         have q154 : x28_1 < (t151.length : Int):=of_decide_eq_true (by first|(with_reducible assumption)|assumption)
         obtain ⟨ad154,e154,hx154_0,hx154_1,hx154_2,hx154_3,hx154_4⟩:=at_T71 (Kd.R_reads' HO_26.out).2.2 x28_1 p154 q154
         cases e154
         replace p154:=eq_true p154
         replace q154:=eq_true q154
         try go_wp2_with (first|((with_reducible refine gate_dst (N:=11) rfl ?_);refine box_event ?hg (N:=11) ?hd (cs:=#[.int .i64 0,.int .i64 0,.int .i64 0,.int .i64 0,.int .i64 0]) (t:=71) ?hr ?_;(case hd=>rfl);(case hg=>rfl);(case hr=>first|(go_simp;done)|(go_simp;rfl));intro gb155 hg w25 hbox hb;have n0_:=Aside0.mk (Kd.R_below (Kd.R_elderB (by (with_reducible repeat (first|apply Kd.R_alloc|apply Kd.R_drewN|apply Kd.R_drew));exact HO_26.out) gb155 (Nat.le_of_eq hg.symm)) hb);have n1_:=Aside0.mk (blk_below (g:=gb145) (o:=.cells #[.int .i64 a2_0,.int .i64 a2_1,.int .i64 a2_2,.int .i64 a2_3,.int .i64 a2_4] 26 (0,0)) (by (with_reducible repeat (first|refine blk_drewN ?_ _|refine blk_drew ?_|refine blk_alloc ?_ _));exact BK145.out) hb);have n2_:=Aside0.mk (below_step (by repeat (first|(with_reducible first|exact HB.out|apply below_alloc|apply pw_below_drewN|apply below_drew1|refine below_set ?_ GE145.out)|exact HB.out)) hb);have n3_:=Aside0.mk (hbox);have n4_:=Aside0.mk ((by rw [hg];exact (below_size (by repeat (first|(with_reducible first|exact HB.out|apply below_alloc|apply pw_below_drewN|apply below_drew1|refine below_set ?_ GE145.out)|exact HB.out))) : w.heap.size ≤ gb155));have n5_:=Aside0.mk ((by rw [hg];exact (below_size (by repeat (first|(with_reducible first|exact HB.out|apply below_alloc|apply pw_below_drewN|apply below_drew1|refine below_set ?_ GE145.out)|exact HB.out))) : w.heap.size ≤ gb155));have n6_:=Aside0.mk ((by rw [hg];exact Nat.ne_of_lt (blk_lt (g:=gb145) (o:=.cells #[.int .i64 a2_0,.int .i64 a2_1,.int .i64 a2_2,.int .i64 a2_3,.int .i64 a2_4] 26 (0,0)) (by (with_reducible repeat (first|refine blk_drewN ?_ _|refine blk_drew ?_|refine blk_alloc ?_ _));exact BK145.out)) : gb145 ≠ gb155));have n7_:=Aside0.mk ((by rw [hg];exact Nat.ne_of_gt (blk_lt (g:=gb145) (o:=.cells #[.int .i64 a2_0,.int .i64 a2_1,.int .i64 a2_2,.int .i64 a2_3,.int .i64 a2_4] 26 (0,0)) (by (with_reducible repeat (first|refine blk_drewN ?_ _|refine blk_drew ?_|refine blk_alloc ?_ _));exact BK145.out)) : gb155 ≠ gb145));clear HO_26;clear BK145;clear HB;have HO_26:=n0_;have BK145:=n1_;have HB:=n2_;have BK155:=n3_;have GW155:=n4_;have GE155:=n5_;have NB145_155:=n6_;have NB155_145:=n7_;clear n0_ n1_ n2_ n3_ n4_ n5_ n6_ n7_;clear hb hbox hg;have hnb26:=NB155_145.out;have hnc26:=NB145_155.out;have hcz27_0 : w25.cell? ⟨gb155,0,none⟩ = some (.int .i64 0):=(blk_cell BK155.out 0).trans rfl;have hcz27_1 : w25.cell? ⟨gb155,1,none⟩ = some (.int .i64 0):=(blk_cell BK155.out 1).trans rfl;have hcz27_2 : w25.cell? ⟨gb155,2,none⟩ = some (.int .i64 0):=(blk_cell BK155.out 2).trans rfl;have hcz27_3 : w25.cell? ⟨gb155,3,none⟩ = some (.int .i64 0):=(blk_cell BK155.out 3).trans rfl;have hcz27_4 : w25.cell? ⟨gb155,4,none⟩ = some (.int .i64 0):=(blk_cell BK155.out 4).trans rfl;have hfz27_0:=blk_frozen BK155.out 0;have hfz27_1:=blk_frozen BK155.out 1;have hfz27_2:=blk_frozen BK155.out 2;have hfz27_3:=blk_frozen BK155.out 3;have hfz27_4:=blk_frozen BK155.out 4))
         have n0_ : Aside0 (Kd.R k71 71 (((((w25.setCell ⟨gb155,0,none⟩ (.int .i64 ((rd_T71 t151 x28_1).f0.f0))).setCell ⟨gb155,1,none⟩ (.int .i64 ((rd_T71 t151 x28_1).f0.f1))).setCell ⟨gb155,2,none⟩ (.int .i64 ((rd_T71 t151 x28_1).f1))).setCell ⟨gb155,3,none⟩ (.int .i64 ((rd_T71 t151 x28_1).f2))).setCell ⟨gb155,4,none⟩ (.int .i64 ((rd_T71 t151 x28_1).f3))) w.heap.size (fun k_=>k_ ≠ gb155) (.slice (some ad154) t151.length co18) t151):=⟨by (with_reducible repeat (first|apply Kd.R_alloc|apply Kd.R_drewN|apply Kd.R_drew));exact Kd.R_mono (Kd.R_far (p:=⟨gb155,4,none⟩) (Kd.R_far (p:=⟨gb155,3,none⟩) (Kd.R_far (p:=⟨gb155,2,none⟩) (Kd.R_far (p:=⟨gb155,1,none⟩) (Kd.R_far (p:=⟨gb155,0,none⟩) (Kd.R_mono HO_26.out (fun k_ hk=>(⟨hk,hk.2⟩ : _ ∧ k_ ≠ gb155))) (fun _ hk=>hk.2) (.int .i64 ((rd_T71 t151 x28_1).f0.f0))) (fun _ hk=>hk.2) (.int .i64 ((rd_T71 t151 x28_1).f0.f1))) (fun _ hk=>hk.2) (.int .i64 ((rd_T71 t151 x28_1).f1))) (fun _ hk=>hk.2) (.int .i64 ((rd_T71 t151 x28_1).f2))) (fun _ hk=>hk.2) (.int .i64 ((rd_T71 t151 x28_1).f3))) (fun _ hk=>hk.1.2)⟩
         have n1_ : Aside0 ((((((w25.setCell ⟨gb155,0,none⟩ (.int .i64 ((rd_T71 t151 x28_1).f0.f0))).setCell ⟨gb155,1,none⟩ (.int .i64 ((rd_T71 t151 x28_1).f0.f1))).setCell ⟨gb155,2,none⟩ (.int .i64 ((rd_T71 t151 x28_1).f1))).setCell ⟨gb155,3,none⟩ (.int .i64 ((rd_T71 t151 x28_1).f2))).setCell ⟨gb155,4,none⟩ (.int .i64 ((rd_T71 t151 x28_1).f3))).heap[gb145]? = some (.cells #[.int .i64 a2_0,.int .i64 a2_1,.int .i64 a2_2,.int .i64 a2_3,.int .i64 a2_4] 26 (0,0))):=⟨by (with_reducible repeat (first|refine blk_drewN ?_ _|refine blk_drew ?_|refine blk_alloc ?_ _));refine blk_far ?_ NB145_155.out _;(with_reducible repeat (first|refine blk_drewN ?_ _|refine blk_drew ?_|refine blk_alloc ?_ _));refine blk_far ?_ NB145_155.out _;(with_reducible repeat (first|refine blk_drewN ?_ _|refine blk_drew ?_|refine blk_alloc ?_ _));refine blk_far ?_ NB145_155.out _;(with_reducible repeat (first|refine blk_drewN ?_ _|refine blk_drew ?_|refine blk_alloc ?_ _));refine blk_far ?_ NB145_155.out _;(with_reducible repeat (first|refine blk_drewN ?_ _|refine blk_drew ?_|refine blk_alloc ?_ _));refine blk_far ?_ NB145_155.out _;(with_reducible repeat (first|refine blk_drewN ?_ _|refine blk_drew ?_|refine blk_alloc ?_ _));exact BK145.out⟩
         have n2_ : Aside0 ((((((w25.setCell ⟨gb155,0,none⟩ (.int .i64 ((rd_T71 t151 x28_1).f0.f0))).setCell ⟨gb155,1,none⟩ (.int .i64 ((rd_T71 t151 x28_1).f0.f1))).setCell ⟨gb155,2,none⟩ (.int .i64 ((rd_T71 t151 x28_1).f1))).setCell ⟨gb155,3,none⟩ (.int .i64 ((rd_T71 t151 x28_1).f2))).setCell ⟨gb155,4,none⟩ (.int .i64 ((rd_T71 t151 x28_1).f3))).heap[gb155]? = some (.cells #[.int .i64 ((rd_T71 t151 x28_1).f0.f0),.int .i64 ((rd_T71 t151 x28_1).f0.f1),.int .i64 ((rd_T71 t151 x28_1).f1),.int .i64 ((rd_T71 t151 x28_1).f2),.int .i64 ((rd_T71 t151 x28_1).f3)] 71 (0,0))):=⟨by (with_reducible repeat (first|refine blk_drewN ?_ _|refine blk_drew ?_|refine blk_alloc ?_ _));refine blk_put (cs:=#[.int .i64 ((rd_T71 t151 x28_1).f0.f0),.int .i64 ((rd_T71 t151 x28_1).f0.f1),.int .i64 ((rd_T71 t151 x28_1).f1),.int .i64 ((rd_T71 t151 x28_1).f2),.int .i64 0]) ?_ 4 _ rfl;(with_reducible repeat (first|refine blk_drewN ?_ _|refine blk_drew ?_|refine blk_alloc ?_ _));refine blk_put (cs:=#[.int .i64 ((rd_T71 t151 x28_1).f0.f0),.int .i64 ((rd_T71 t151 x28_1).f0.f1),.int .i64 ((rd_T71 t151 x28_1).f1),.int .i64 0,.int .i64 0]) ?_ 3 _ rfl;(with_reducible repeat (first|refine blk_drewN ?_ _|refine blk_drew ?_|refine blk_alloc ?_ _));refine blk_put (cs:=#[.int .i64 ((rd_T71 t151 x28_1).f0.f0),.int .i64 ((rd_T71 t151 x28_1).f0.f1),.int .i64 0,.int .i64 0,.int .i64 0]) ?_ 2 _ rfl;(with_reducible repeat (first|refine blk_drewN ?_ _|refine blk_drew ?_|refine blk_alloc ?_ _));refine blk_put (cs:=#[.int .i64 ((rd_T71 t151 x28_1).f0.f0),.int .i64 0,.int .i64 0,.int .i64 0,.int .i64 0]) ?_ 1 _ rfl;(with_reducible repeat (first|refine blk_drewN ?_ _|refine blk_drew ?_|refine blk_alloc ?_ _));refine blk_put (cs:=#[.int .i64 0,.int .i64 0,.int .i64 0,.int .i64 0,.int .i64 0]) ?_ 0 _ rfl;(with_reducible repeat (first|refine blk_drewN ?_ _|refine blk_drew ?_|refine blk_alloc ?_ _));exact BK155.out⟩
         have n3_ : Aside0 (Below w.heap.size w (((((w25.setCell ⟨gb155,0,none⟩ (.int .i64 ((rd_T71 t151 x28_1).f0.f0))).setCell ⟨gb155,1,none⟩ (.int .i64 ((rd_T71 t151 x28_1).f0.f1))).setCell ⟨gb155,2,none⟩ (.int .i64 ((rd_T71 t151 x28_1).f1))).setCell ⟨gb155,3,none⟩ (.int .i64 ((rd_T71 t151 x28_1).f2))).setCell ⟨gb155,4,none⟩ (.int .i64 ((rd_T71 t151 x28_1).f3)))):=⟨by repeat (first|(with_reducible first|exact HB.out|apply below_alloc|apply pw_below_drewN|apply below_drew1|refine below_set ?_ GE145.out|refine below_set ?_ GE155.out)|exact HB.out)⟩
         (try clear HO_26)
         (try clear BK145)
         (try clear BK155)
         (try clear HB)
         generalize (((((w25.setCell ⟨gb155,0,none⟩ (.int .i64 ((rd_T71 t151 x28_1).f0.f0))).setCell ⟨gb155,1,none⟩ (.int .i64 ((rd_T71 t151 x28_1).f0.f1))).setCell ⟨gb155,2,none⟩ (.int .i64 ((rd_T71 t151 x28_1).f1))).setCell ⟨gb155,3,none⟩ (.int .i64 ((rd_T71 t151 x28_1).f2))).setCell ⟨gb155,4,none⟩ (.int .i64 ((rd_T71 t151 x28_1).f3))) = w28 at n0_ n1_ n2_ n3_ ⊢
         have HO_26:=n0_
         have BK145:=n1_
         have BK155:=n2_
         have HB:=n3_
         clear n0_ n1_ n2_ n3_
         have n0_:=Aside0.mk (Kd.R_drew HO_26.out)
         have n1_:=Aside0.mk (blk_drew BK145.out)
         have n2_:=Aside0.mk (blk_drew BK155.out)
         have n3_:=Aside0.mk (below_drew1 HB.out)
         clear HO_26
         clear BK145
         clear BK155
         clear HB
         have HO_26:=n0_
         have BK145:=n1_
         have BK155:=n2_
         have HB:=n3_
         clear n0_ n1_ n2_ n3_
         refine start_ (n:=6) (S:=fun w'=>w'.cell? ⟨gb155,0,none⟩ = some (.int .i64 ((rd_T71 t151 x28_1).f0.f0)) ∧ w'.cell? ⟨gb155,1,none⟩ = some (.int .i64 ((rd_T71 t151 x28_1).f0.f1)) ∧ w'.cell? ⟨gb155,2,none⟩ = some (.int .i64 ((rd_T71 t151 x28_1).f1)) ∧ w'.cell? ⟨gb155,3,none⟩ = some (.int .i64 ((rd_T71 t151 x28_1).f2)) ∧ w'.cell? ⟨gb155,4,none⟩ = some (.int .i64 ((rd_T71 t151 x28_1).f3))) (ds:=[]) #[false,false,false,false,false,false] (by kernel_rfl) rfl rfl ⟨(blk_cell BK155.out 0).trans rfl,(blk_cell BK155.out 1).trans rfl,(blk_cell BK155.out 2).trans rfl,(blk_cell BK155.out 3).trans rfl,(blk_cell BK155.out 4).trans rfl⟩ (fun hHeld=>?_)
         generalize w28.drew = w29 at HO_26 BK145 BK155 HB hHeld ⊢
         refine pure_ (i:=0) (N:=some 32) (v:=?_) (a':=?_) #[true,false,false,false,false,false] rfl rfl (by kernel_rfl) (fun _ _ _ h=>h) (Or.inl ⟨by rfl,?_⟩) ?_ ?_
         rotate_left
         ·intro w'
          go_simp
          with_reducible rfl
         rotate_left
         ·simp only [Act.put,List.setIfInBounds_toArray,List.set_cons_zero,List.set_cons_succ,i64_w,i32_w]
          rfl
         refine pure_ (i:=1) (N:=some 33) (v:=?_) (a':=?_) #[true,true,false,false,false,false] rfl rfl (by kernel_rfl) (fun _ _ _ h=>h) (Or.inl ⟨by rfl,?_⟩) ?_ ?_
         rotate_left
         ·intro w'
          go_simp
          with_reducible rfl
         rotate_left
         ·simp only [Act.put,List.setIfInBounds_toArray,List.set_cons_zero,List.set_cons_succ,i64_w,i32_w]
          rfl
         refine take_ (i:=3) (N:=some 35) (v:=?_) (a':=?_) #[true,true,false,true,false,false] rfl rfl (by kernel_rfl) (fun _ _ _ h=>h) (Or.inl ⟨by rfl,?_⟩) hHeld ?_ ?_
         rotate_left
         ·rintro w' ⟨s0,s1,s2,s3,s4⟩
          go_simp
          with_reducible rfl
         rotate_left
         ·simp only [Act.put,List.setIfInBounds_toArray,List.set_cons_zero,List.set_cons_succ,i64_w,i32_w]
          rfl
         refine one_ (i:=2) (N:=some 34) #[true,true,true,true,false,false] rfl rfl (by kernel_rfl) (by decide) (fun K hK=>?_)
         refine goes_ Try.func41 (by kernel_rfl) rfl #[.slice A1 l1.length c1] (by rfl) rfl rfl (by (try simp only [List.map_toArray,List.map_cons,List.map_nil]);first|done|rfl|(simp only [List.length_drop,List.length_take];rfl)) ?_
         with_reducible refine (difference_arcs.calls k1 _ _ l1 t156 _ ?side1 ?side2 A22.out).mono ?_
         (case side1=>repeat (first|exact (Kd.C_below HR1.out HB.out)|(with_reducible refine Kd.C_alloc ?_ _)|(with_reducible refine Kd.C_drewN ?_ _)|(with_reducible refine Kd.C_drew ?_)))
         (case side2=>exact HC1.out)
         rintro e w30 ⟨v157,rfl,ho0,hb⟩
         refine ⟨_,rfl,?_⟩
         have n0_:=Aside0.mk (Kd.R_elder' (by (with_reducible repeat (first|apply Kd.R_alloc|apply Kd.R_drewN|apply Kd.R_drew));exact HO_26.out) (Kd.R_base ho0) hb)
         have n1_:=Aside0.mk (Kd.R_lower (Kd.R_newB (Kd.R_new' ho0 (Kd.R_lt (by (with_reducible repeat (first|apply Kd.R_alloc|apply Kd.R_drewN|apply Kd.R_drew));exact HO_26.out))) (g:=gb155) (o:=.cells #[.int .i64 ((rd_T71 t151 x28_1).f0.f0),.int .i64 ((rd_T71 t151 x28_1).f0.f1),.int .i64 ((rd_T71 t151 x28_1).f1),.int .i64 ((rd_T71 t151 x28_1).f2),.int .i64 ((rd_T71 t151 x28_1).f3)] 71 (0,0)) (by (with_reducible repeat (first|refine blk_drewN ?_ _|refine blk_drew ?_|refine blk_alloc ?_ _));exact BK155.out)) (below_size (by repeat (first|(with_reducible first|exact HB.out|apply below_alloc|apply pw_below_drewN|apply below_drew1|refine below_set ?_ GE145.out|refine below_set ?_ GE155.out)|exact HB.out))))
         have n2_:=Aside0.mk (blk_below (g:=gb145) (o:=.cells #[.int .i64 a2_0,.int .i64 a2_1,.int .i64 a2_2,.int .i64 a2_3,.int .i64 a2_4] 26 (0,0)) (by (with_reducible repeat (first|refine blk_drewN ?_ _|refine blk_drew ?_|refine blk_alloc ?_ _));exact BK145.out) hb)
         have n3_:=Aside0.mk (blk_below (g:=gb155) (o:=.cells #[.int .i64 ((rd_T71 t151 x28_1).f0.f0),.int .i64 ((rd_T71 t151 x28_1).f0.f1),.int .i64 ((rd_T71 t151 x28_1).f1),.int .i64 ((rd_T71 t151 x28_1).f2),.int .i64 ((rd_T71 t151 x28_1).f3)] 71 (0,0)) (by (with_reducible repeat (first|refine blk_drewN ?_ _|refine blk_drew ?_|refine blk_alloc ?_ _));exact BK155.out) hb)
         have n4_:=Aside0.mk (below_step (by repeat (first|(with_reducible first|exact HB.out|apply below_alloc|apply pw_below_drewN|apply below_drew1|refine below_set ?_ GE145.out|refine below_set ?_ GE155.out)|exact HB.out)) hb)
         clear HO_26
         clear BK145
         clear BK155
         clear HB
         have HO_26:=n0_
         have HO158:=n1_
         have BK145:=n2_
         have BK155:=n3_
         have HB:=n4_
         clear n0_ n1_ n2_ n3_ n4_
         (try clear hb)
         (try clear hb2)
         (try clear hk)
         (try clear hi)
         (try clear ho0)
         obtain ⟨Ao31,co31,eo31⟩:=Kd.R_slice HO158.out
         (first|subst eo31|(injection eo31 with f1_ f2_ f3_;have f4_:=f1_.symm;have f5_:=f3_.symm;clear f1_ f2_ f3_;subst f4_;subst f5_))
         refine hK.out _ _ ⟨(blk_cell BK155.out 0).trans rfl,(blk_cell BK155.out 1).trans rfl,(blk_cell BK155.out 2).trans rfl,(blk_cell BK155.out 3).trans rfl,(blk_cell BK155.out 4).trans rfl⟩ (fun hHeld=>?_)
         clear hK K
         refine norm_ (a':=?_) ?_ ?_
         rotate_left
         ·show Act.put _ (some 34) _ = _
          simp only [Act.put,List.setIfInBounds_toArray,List.set_cons_zero,List.set_cons_succ,i64_w,i32_w]
          rfl
         refine one_ (i:=4) (N:=some 36) #[true,true,true,true,true,false] rfl rfl (by kernel_rfl) (by decide) (fun K hK=>?_)
         refine goes_ Try.func42 (by kernel_rfl) rfl #[.int .i64 a0,.slice Ao31 t156.length co31,.agg #[.int .i64 ((rd_T71 t151 x28_1).f0.f0),.int .i64 ((rd_T71 t151 x28_1).f0.f1),.int .i64 ((rd_T71 t151 x28_1).f1),.int .i64 ((rd_T71 t151 x28_1).f2),.int .i64 ((rd_T71 t151 x28_1).f3)]] (by rfl) rfl rfl (by (try simp only [List.map_toArray,List.map_cons,List.map_nil]);first|done|rfl|(simp only [List.length_drop,List.length_take];rfl)) ?_
         with_reducible refine (difference_implied.calls k1 a0 _ _ t156 ((rd_T71 t151 x28_1).f0.f0) ((rd_T71 t151 x28_1).f0.f1) ((rd_T71 t151 x28_1).f1) ((rd_T71 t151 x28_1).f2) ((rd_T71 t151 x28_1).f3) true _ ?side1 ?side2 A23.out).mono ?_
         (case side1=>repeat (first|exact (Kd.R_reads' HO158.out).2.2|(with_reducible refine Kd.C_alloc ?_ _)|(with_reducible refine Kd.C_drewN ?_ _)|(with_reducible refine Kd.C_drew ?_)))
         (case side2=>exact (Kd.R_reads' HO158.out).2.1)
         rintro e w32 ⟨rfl,hb⟩
         refine ⟨_,rfl,?_⟩
         have n0_:=Aside0.mk (Kd.R_below (by (with_reducible repeat (first|apply Kd.R_alloc|apply Kd.R_drewN|apply Kd.R_drew));exact HO_26.out) hb)
         have n1_:=Aside0.mk (Kd.R_below (by (with_reducible repeat (first|apply Kd.R_alloc|apply Kd.R_drewN|apply Kd.R_drew));exact HO158.out) hb)
         have n2_:=Aside0.mk (blk_below (g:=gb145) (o:=.cells #[.int .i64 a2_0,.int .i64 a2_1,.int .i64 a2_2,.int .i64 a2_3,.int .i64 a2_4] 26 (0,0)) (by (with_reducible repeat (first|refine blk_drewN ?_ _|refine blk_drew ?_|refine blk_alloc ?_ _));exact BK145.out) hb)
         have n3_:=Aside0.mk (blk_below (g:=gb155) (o:=.cells #[.int .i64 ((rd_T71 t151 x28_1).f0.f0),.int .i64 ((rd_T71 t151 x28_1).f0.f1),.int .i64 ((rd_T71 t151 x28_1).f1),.int .i64 ((rd_T71 t151 x28_1).f2),.int .i64 ((rd_T71 t151 x28_1).f3)] 71 (0,0)) (by (with_reducible repeat (first|refine blk_drewN ?_ _|refine blk_drew ?_|refine blk_alloc ?_ _));exact BK155.out) hb)
         have n4_:=Aside0.mk (below_step (by repeat (first|(with_reducible first|exact HB.out|apply below_alloc|apply pw_below_drewN|apply below_drew1|refine below_set ?_ GE145.out|refine below_set ?_ GE155.out)|exact HB.out)) hb)
         clear HO_26
         clear HO158
         clear BK145
         clear BK155
         clear HB
         have HO_26:=n0_
         have HO158:=n1_
         have BK145:=n2_
         have BK155:=n3_
         have HB:=n4_
         clear n0_ n1_ n2_ n3_ n4_
         (try clear hb)
         (try clear hb2)
         (try clear hk)
         (try clear hi)
         refine hK.out _ _ ⟨(blk_cell BK155.out 0).trans rfl,(blk_cell BK155.out 1).trans rfl,(blk_cell BK155.out 2).trans rfl,(blk_cell BK155.out 3).trans rfl,(blk_cell BK155.out 4).trans rfl⟩ (fun hHeld=>?_)
         clear hK K
         refine norm_ (a':=?_) ?_ ?_
         rotate_left
         ·show Act.put _ (some 36) _ = _
          simp only [Act.put,List.setIfInBounds_toArray,List.set_cons_zero,List.set_cons_succ,i64_w,i32_w]
          rfl
         refine pure_ (i:=5) (N:=some 37) (v:=?_) (a':=?_) #[true,true,true,true,true,true] rfl rfl (by kernel_rfl) (fun _ _ _ h=>h) (Or.inl ⟨by rfl,?_⟩) ?_ ?_
         rotate_left
         ·intro w'
          go_simp
          with_reducible rfl
         rotate_left
         ·simp only [Act.put,List.setIfInBounds_toArray,List.set_cons_zero,List.set_cons_succ,i64_w,i32_w]
          rfl
         refine done_ (by kernel_rfl) ?_
         try go_wp2
         go_roundg k1
         case measure=>have:=HK1.out;omega
         case rel=>exact ⟨(wrap64 (x28_1 + 1)),(by first|rfl|(simp;done)|(simp [*];done)),H',⟨by have:=HK1.out;omega⟩,⟨by (with_reducible repeat (first|apply Kd.R_alloc|apply Kd.R_drewN|apply Kd.R_drew));exact Kd.R_mono HO_26.out (fun _ hk=>trivial)⟩,⟨by (with_reducible repeat (first|refine blk_drewN ?_ _|refine blk_drew ?_|refine blk_alloc ?_ _));exact BK145.out⟩,⟨by repeat (first|(with_reducible first|exact HB.out|apply below_alloc|apply pw_below_drewN|apply below_drew1|refine below_set ?_ GE145.out|refine below_set ?_ GE155.out)|exact HB.out)⟩⟩
        ·replace c24:=Bool.eq_false_iff.mpr c24
         subst c24
         have H1 : (some (false,0)) = some (r1,r2):=by rw [if_neg (show ¬ (false = true) by decide)] at H;exact H
         clear H
         have H:=H1
         clear H1
         simp only [Option.some.injEq,Prod.mk.injEq] at H
         obtain ⟨rfl,rfl⟩:=H
         have p154 : 0 ≤ (x28_1 : Int):=of_decide_eq_true (by first|(with_reducible assumption)|assumption)
         have q154 : x28_1 < (t151.length : Int):=of_decide_eq_true (by first|(with_reducible assumption)|assumption)
         obtain ⟨ad154,e154,hx154_0,hx154_1,hx154_2,hx154_3,hx154_4⟩:=at_T71 (Kd.R_reads' HO_26.out).2.2 x28_1 p154 q154
         cases e154
         replace p154:=eq_true p154
         replace q154:=eq_true q154
         try go_wp2_with (first|((with_reducible refine gate_dst (N:=11) rfl ?_);refine box_event ?hg (N:=11) ?hd (cs:=#[.int .i64 0,.int .i64 0,.int .i64 0,.int .i64 0,.int .i64 0]) (t:=71) ?hr ?_;(case hd=>rfl);(case hg=>rfl);(case hr=>first|(go_simp;done)|(go_simp;rfl));intro gb155 hg w33 hbox hb;have n0_:=Aside0.mk (Kd.R_below (Kd.R_elderB (by (with_reducible repeat (first|apply Kd.R_alloc|apply Kd.R_drewN|apply Kd.R_drew));exact HO_26.out) gb155 (Nat.le_of_eq hg.symm)) hb);have n1_:=Aside0.mk (blk_below (g:=gb145) (o:=.cells #[.int .i64 a2_0,.int .i64 a2_1,.int .i64 a2_2,.int .i64 a2_3,.int .i64 a2_4] 26 (0,0)) (by (with_reducible repeat (first|refine blk_drewN ?_ _|refine blk_drew ?_|refine blk_alloc ?_ _));exact BK145.out) hb);have n2_:=Aside0.mk (below_step (by repeat (first|(with_reducible first|exact HB.out|apply below_alloc|apply pw_below_drewN|apply below_drew1|refine below_set ?_ GE145.out)|exact HB.out)) hb);have n3_:=Aside0.mk (hbox);have n4_:=Aside0.mk ((by rw [hg];exact (below_size (by repeat (first|(with_reducible first|exact HB.out|apply below_alloc|apply pw_below_drewN|apply below_drew1|refine below_set ?_ GE145.out)|exact HB.out))) : w.heap.size ≤ gb155));have n5_:=Aside0.mk ((by rw [hg];exact (below_size (by repeat (first|(with_reducible first|exact HB.out|apply below_alloc|apply pw_below_drewN|apply below_drew1|refine below_set ?_ GE145.out)|exact HB.out))) : w.heap.size ≤ gb155));have n6_:=Aside0.mk ((by rw [hg];exact Nat.ne_of_lt (blk_lt (g:=gb145) (o:=.cells #[.int .i64 a2_0,.int .i64 a2_1,.int .i64 a2_2,.int .i64 a2_3,.int .i64 a2_4] 26 (0,0)) (by (with_reducible repeat (first|refine blk_drewN ?_ _|refine blk_drew ?_|refine blk_alloc ?_ _));exact BK145.out)) : gb145 ≠ gb155));have n7_:=Aside0.mk ((by rw [hg];exact Nat.ne_of_gt (blk_lt (g:=gb145) (o:=.cells #[.int .i64 a2_0,.int .i64 a2_1,.int .i64 a2_2,.int .i64 a2_3,.int .i64 a2_4] 26 (0,0)) (by (with_reducible repeat (first|refine blk_drewN ?_ _|refine blk_drew ?_|refine blk_alloc ?_ _));exact BK145.out)) : gb155 ≠ gb145));clear HO_26;clear BK145;clear HB;have HO_26:=n0_;have BK145:=n1_;have HB:=n2_;have BK155:=n3_;have GW155:=n4_;have GE155:=n5_;have NB145_155:=n6_;have NB155_145:=n7_;clear n0_ n1_ n2_ n3_ n4_ n5_ n6_ n7_;clear hb hbox hg;have hnb34:=NB155_145.out;have hnc34:=NB145_155.out;have hcz35_0 : w33.cell? ⟨gb155,0,none⟩ = some (.int .i64 0):=(blk_cell BK155.out 0).trans rfl;have hcz35_1 : w33.cell? ⟨gb155,1,none⟩ = some (.int .i64 0):=(blk_cell BK155.out 1).trans rfl;have hcz35_2 : w33.cell? ⟨gb155,2,none⟩ = some (.int .i64 0):=(blk_cell BK155.out 2).trans rfl;have hcz35_3 : w33.cell? ⟨gb155,3,none⟩ = some (.int .i64 0):=(blk_cell BK155.out 3).trans rfl;have hcz35_4 : w33.cell? ⟨gb155,4,none⟩ = some (.int .i64 0):=(blk_cell BK155.out 4).trans rfl;have hfz35_0:=blk_frozen BK155.out 0;have hfz35_1:=blk_frozen BK155.out 1;have hfz35_2:=blk_frozen BK155.out 2;have hfz35_3:=blk_frozen BK155.out 3;have hfz35_4:=blk_frozen BK155.out 4))
         have n0_ : Aside0 (Kd.R k71 71 (((((w33.setCell ⟨gb155,0,none⟩ (.int .i64 ((rd_T71 t151 x28_1).f0.f0))).setCell ⟨gb155,1,none⟩ (.int .i64 ((rd_T71 t151 x28_1).f0.f1))).setCell ⟨gb155,2,none⟩ (.int .i64 ((rd_T71 t151 x28_1).f1))).setCell ⟨gb155,3,none⟩ (.int .i64 ((rd_T71 t151 x28_1).f2))).setCell ⟨gb155,4,none⟩ (.int .i64 ((rd_T71 t151 x28_1).f3))) w.heap.size (fun k_=>k_ ≠ gb155) (.slice (some ad154) t151.length co18) t151):=⟨by (with_reducible repeat (first|apply Kd.R_alloc|apply Kd.R_drewN|apply Kd.R_drew));exact Kd.R_mono (Kd.R_far (p:=⟨gb155,4,none⟩) (Kd.R_far (p:=⟨gb155,3,none⟩) (Kd.R_far (p:=⟨gb155,2,none⟩) (Kd.R_far (p:=⟨gb155,1,none⟩) (Kd.R_far (p:=⟨gb155,0,none⟩) (Kd.R_mono HO_26.out (fun k_ hk=>(⟨hk,hk.2⟩ : _ ∧ k_ ≠ gb155))) (fun _ hk=>hk.2) (.int .i64 ((rd_T71 t151 x28_1).f0.f0))) (fun _ hk=>hk.2) (.int .i64 ((rd_T71 t151 x28_1).f0.f1))) (fun _ hk=>hk.2) (.int .i64 ((rd_T71 t151 x28_1).f1))) (fun _ hk=>hk.2) (.int .i64 ((rd_T71 t151 x28_1).f2))) (fun _ hk=>hk.2) (.int .i64 ((rd_T71 t151 x28_1).f3))) (fun _ hk=>hk.1.2)⟩
         have n1_ : Aside0 ((((((w33.setCell ⟨gb155,0,none⟩ (.int .i64 ((rd_T71 t151 x28_1).f0.f0))).setCell ⟨gb155,1,none⟩ (.int .i64 ((rd_T71 t151 x28_1).f0.f1))).setCell ⟨gb155,2,none⟩ (.int .i64 ((rd_T71 t151 x28_1).f1))).setCell ⟨gb155,3,none⟩ (.int .i64 ((rd_T71 t151 x28_1).f2))).setCell ⟨gb155,4,none⟩ (.int .i64 ((rd_T71 t151 x28_1).f3))).heap[gb145]? = some (.cells #[.int .i64 a2_0,.int .i64 a2_1,.int .i64 a2_2,.int .i64 a2_3,.int .i64 a2_4] 26 (0,0))):=⟨by (with_reducible repeat (first|refine blk_drewN ?_ _|refine blk_drew ?_|refine blk_alloc ?_ _));refine blk_far ?_ NB145_155.out _;(with_reducible repeat (first|refine blk_drewN ?_ _|refine blk_drew ?_|refine blk_alloc ?_ _));refine blk_far ?_ NB145_155.out _;(with_reducible repeat (first|refine blk_drewN ?_ _|refine blk_drew ?_|refine blk_alloc ?_ _));refine blk_far ?_ NB145_155.out _;(with_reducible repeat (first|refine blk_drewN ?_ _|refine blk_drew ?_|refine blk_alloc ?_ _));refine blk_far ?_ NB145_155.out _;(with_reducible repeat (first|refine blk_drewN ?_ _|refine blk_drew ?_|refine blk_alloc ?_ _));refine blk_far ?_ NB145_155.out _;(with_reducible repeat (first|refine blk_drewN ?_ _|refine blk_drew ?_|refine blk_alloc ?_ _));exact BK145.out⟩
         have n2_ : Aside0 ((((((w33.setCell ⟨gb155,0,none⟩ (.int .i64 ((rd_T71 t151 x28_1).f0.f0))).setCell ⟨gb155,1,none⟩ (.int .i64 ((rd_T71 t151 x28_1).f0.f1))).setCell ⟨gb155,2,none⟩ (.int .i64 ((rd_T71 t151 x28_1).f1))).setCell ⟨gb155,3,none⟩ (.int .i64 ((rd_T71 t151 x28_1).f2))).setCell ⟨gb155,4,none⟩ (.int .i64 ((rd_T71 t151 x28_1).f3))).heap[gb155]? = some (.cells #[.int .i64 ((rd_T71 t151 x28_1).f0.f0),.int .i64 ((rd_T71 t151 x28_1).f0.f1),.int .i64 ((rd_T71 t151 x28_1).f1),.int .i64 ((rd_T71 t151 x28_1).f2),.int .i64 ((rd_T71 t151 x28_1).f3)] 71 (0,0))):=⟨by (with_reducible repeat (first|refine blk_drewN ?_ _|refine blk_drew ?_|refine blk_alloc ?_ _));refine blk_put (cs:=#[.int .i64 ((rd_T71 t151 x28_1).f0.f0),.int .i64 ((rd_T71 t151 x28_1).f0.f1),.int .i64 ((rd_T71 t151 x28_1).f1),.int .i64 ((rd_T71 t151 x28_1).f2),.int .i64 0]) ?_ 4 _ rfl;(with_reducible repeat (first|refine blk_drewN ?_ _|refine blk_drew ?_|refine blk_alloc ?_ _));refine blk_put (cs:=#[.int .i64 ((rd_T71 t151 x28_1).f0.f0),.int .i64 ((rd_T71 t151 x28_1).f0.f1),.int .i64 ((rd_T71 t151 x28_1).f1),.int .i64 0,.int .i64 0]) ?_ 3 _ rfl;(with_reducible repeat (first|refine blk_drewN ?_ _|refine blk_drew ?_|refine blk_alloc ?_ _));refine blk_put (cs:=#[.int .i64 ((rd_T71 t151 x28_1).f0.f0),.int .i64 ((rd_T71 t151 x28_1).f0.f1),.int .i64 0,.int .i64 0,.int .i64 0]) ?_ 2 _ rfl;(with_reducible repeat (first|refine blk_drewN ?_ _|refine blk_drew ?_|refine blk_alloc ?_ _));refine blk_put (cs:=#[.int .i64 ((rd_T71 t151 x28_1).f0.f0),.int .i64 0,.int .i64 0,.int .i64 0,.int .i64 0]) ?_ 1 _ rfl;(with_reducible repeat (first|refine blk_drewN ?_ _|refine blk_drew ?_|refine blk_alloc ?_ _));refine blk_put (cs:=#[.int .i64 0,.int .i64 0,.int .i64 0,.int .i64 0,.int .i64 0]) ?_ 0 _ rfl;(with_reducible repeat (first|refine blk_drewN ?_ _|refine blk_drew ?_|refine blk_alloc ?_ _));exact BK155.out⟩
         have n3_ : Aside0 (Below w.heap.size w (((((w33.setCell ⟨gb155,0,none⟩ (.int .i64 ((rd_T71 t151 x28_1).f0.f0))).setCell ⟨gb155,1,none⟩ (.int .i64 ((rd_T71 t151 x28_1).f0.f1))).setCell ⟨gb155,2,none⟩ (.int .i64 ((rd_T71 t151 x28_1).f1))).setCell ⟨gb155,3,none⟩ (.int .i64 ((rd_T71 t151 x28_1).f2))).setCell ⟨gb155,4,none⟩ (.int .i64 ((rd_T71 t151 x28_1).f3)))):=⟨by repeat (first|(with_reducible first|exact HB.out|apply below_alloc|apply pw_below_drewN|apply below_drew1|refine below_set ?_ GE145.out|refine below_set ?_ GE155.out)|exact HB.out)⟩
         (try clear HO_26)
         (try clear BK145)
         (try clear BK155)
         (try clear HB)
         generalize (((((w33.setCell ⟨gb155,0,none⟩ (.int .i64 ((rd_T71 t151 x28_1).f0.f0))).setCell ⟨gb155,1,none⟩ (.int .i64 ((rd_T71 t151 x28_1).f0.f1))).setCell ⟨gb155,2,none⟩ (.int .i64 ((rd_T71 t151 x28_1).f1))).setCell ⟨gb155,3,none⟩ (.int .i64 ((rd_T71 t151 x28_1).f2))).setCell ⟨gb155,4,none⟩ (.int .i64 ((rd_T71 t151 x28_1).f3))) = w36 at n0_ n1_ n2_ n3_ ⊢
         have HO_26:=n0_
         have BK145:=n1_
         have BK155:=n2_
         have HB:=n3_
         clear n0_ n1_ n2_ n3_
         have n0_:=Aside0.mk (Kd.R_drew HO_26.out)
         have n1_:=Aside0.mk (blk_drew BK145.out)
         have n2_:=Aside0.mk (blk_drew BK155.out)
         have n3_:=Aside0.mk (below_drew1 HB.out)
         clear HO_26
         clear BK145
         clear BK155
         clear HB
         have HO_26:=n0_
         have BK145:=n1_
         have BK155:=n2_
         have HB:=n3_
         clear n0_ n1_ n2_ n3_
         refine start_ (n:=6) (S:=fun w'=>w'.cell? ⟨gb155,0,none⟩ = some (.int .i64 ((rd_T71 t151 x28_1).f0.f0)) ∧ w'.cell? ⟨gb155,1,none⟩ = some (.int .i64 ((rd_T71 t151 x28_1).f0.f1)) ∧ w'.cell? ⟨gb155,2,none⟩ = some (.int .i64 ((rd_T71 t151 x28_1).f1)) ∧ w'.cell? ⟨gb155,3,none⟩ = some (.int .i64 ((rd_T71 t151 x28_1).f2)) ∧ w'.cell? ⟨gb155,4,none⟩ = some (.int .i64 ((rd_T71 t151 x28_1).f3))) (ds:=[]) #[false,false,false,false,false,false] (by kernel_rfl) rfl rfl ⟨(blk_cell BK155.out 0).trans rfl,(blk_cell BK155.out 1).trans rfl,(blk_cell BK155.out 2).trans rfl,(blk_cell BK155.out 3).trans rfl,(blk_cell BK155.out 4).trans rfl⟩ (fun hHeld=>?_)
         generalize w36.drew = w37 at HO_26 BK145 BK155 HB hHeld ⊢
         refine pure_ (i:=0) (N:=some 32) (v:=?_) (a':=?_) #[true,false,false,false,false,false] rfl rfl (by kernel_rfl) (fun _ _ _ h=>h) (Or.inl ⟨by rfl,?_⟩) ?_ ?_
         rotate_left
         ·intro w'
          go_simp
          with_reducible rfl
         rotate_left
         ·simp only [Act.put,List.setIfInBounds_toArray,List.set_cons_zero,List.set_cons_succ,i64_w,i32_w]
          rfl
         refine pure_ (i:=1) (N:=some 33) (v:=?_) (a':=?_) #[true,true,false,false,false,false] rfl rfl (by kernel_rfl) (fun _ _ _ h=>h) (Or.inl ⟨by rfl,?_⟩) ?_ ?_
         rotate_left
         ·intro w'
          go_simp
          with_reducible rfl
         rotate_left
         ·simp only [Act.put,List.setIfInBounds_toArray,List.set_cons_zero,List.set_cons_succ,i64_w,i32_w]
          rfl
         refine take_ (i:=3) (N:=some 35) (v:=?_) (a':=?_) #[true,true,false,true,false,false] rfl rfl (by kernel_rfl) (fun _ _ _ h=>h) (Or.inl ⟨by rfl,?_⟩) hHeld ?_ ?_
         rotate_left
         ·rintro w' ⟨s0,s1,s2,s3,s4⟩
          go_simp
          with_reducible rfl
         rotate_left
         ·simp only [Act.put,List.setIfInBounds_toArray,List.set_cons_zero,List.set_cons_succ,i64_w,i32_w]
          rfl
         refine one_ (i:=2) (N:=some 34) #[true,true,true,true,false,false] rfl rfl (by kernel_rfl) (by decide) (fun K hK=>?_)
         refine goes_ Try.func41 (by kernel_rfl) rfl #[.slice A1 l1.length c1] (by rfl) rfl rfl (by (try simp only [List.map_toArray,List.map_cons,List.map_nil]);first|done|rfl|(simp only [List.length_drop,List.length_take];rfl)) ?_
         with_reducible refine (difference_arcs.calls k1 _ _ l1 t156 _ ?side1 ?side2 A22.out).mono ?_
         (case side1=>repeat (first|exact (Kd.C_below HR1.out HB.out)|(with_reducible refine Kd.C_alloc ?_ _)|(with_reducible refine Kd.C_drewN ?_ _)|(with_reducible refine Kd.C_drew ?_)))
         (case side2=>exact HC1.out)
         rintro e w38 ⟨v157,rfl,ho0,hb⟩
         refine ⟨_,rfl,?_⟩
         have n0_:=Aside0.mk (Kd.R_elder' (by (with_reducible repeat (first|apply Kd.R_alloc|apply Kd.R_drewN|apply Kd.R_drew));exact HO_26.out) (Kd.R_base ho0) hb)
         have n1_:=Aside0.mk (Kd.R_lower (Kd.R_newB (Kd.R_new' ho0 (Kd.R_lt (by (with_reducible repeat (first|apply Kd.R_alloc|apply Kd.R_drewN|apply Kd.R_drew));exact HO_26.out))) (g:=gb155) (o:=.cells #[.int .i64 ((rd_T71 t151 x28_1).f0.f0),.int .i64 ((rd_T71 t151 x28_1).f0.f1),.int .i64 ((rd_T71 t151 x28_1).f1),.int .i64 ((rd_T71 t151 x28_1).f2),.int .i64 ((rd_T71 t151 x28_1).f3)] 71 (0,0)) (by (with_reducible repeat (first|refine blk_drewN ?_ _|refine blk_drew ?_|refine blk_alloc ?_ _));exact BK155.out)) (below_size (by repeat (first|(with_reducible first|exact HB.out|apply below_alloc|apply pw_below_drewN|apply below_drew1|refine below_set ?_ GE145.out|refine below_set ?_ GE155.out)|exact HB.out))))
         have n2_:=Aside0.mk (blk_below (g:=gb145) (o:=.cells #[.int .i64 a2_0,.int .i64 a2_1,.int .i64 a2_2,.int .i64 a2_3,.int .i64 a2_4] 26 (0,0)) (by (with_reducible repeat (first|refine blk_drewN ?_ _|refine blk_drew ?_|refine blk_alloc ?_ _));exact BK145.out) hb)
         have n3_:=Aside0.mk (blk_below (g:=gb155) (o:=.cells #[.int .i64 ((rd_T71 t151 x28_1).f0.f0),.int .i64 ((rd_T71 t151 x28_1).f0.f1),.int .i64 ((rd_T71 t151 x28_1).f1),.int .i64 ((rd_T71 t151 x28_1).f2),.int .i64 ((rd_T71 t151 x28_1).f3)] 71 (0,0)) (by (with_reducible repeat (first|refine blk_drewN ?_ _|refine blk_drew ?_|refine blk_alloc ?_ _));exact BK155.out) hb)
         have n4_:=Aside0.mk (below_step (by repeat (first|(with_reducible first|exact HB.out|apply below_alloc|apply pw_below_drewN|apply below_drew1|refine below_set ?_ GE145.out|refine below_set ?_ GE155.out)|exact HB.out)) hb)
         clear HO_26
         clear BK145
         clear BK155
         clear HB
         have HO_26:=n0_
         have HO158:=n1_
         have BK145:=n2_
         have BK155:=n3_
         have HB:=n4_
         clear n0_ n1_ n2_ n3_ n4_
         (try clear hb)
         (try clear hb2)
         (try clear hk)
         (try clear hi)
         (try clear ho0)
         obtain ⟨Ao39,co39,eo39⟩:=Kd.R_slice HO158.out
         (first|subst eo39|(injection eo39 with f1_ f2_ f3_;have f4_:=f1_.symm;have f5_:=f3_.symm;clear f1_ f2_ f3_;subst f4_;subst f5_))
         refine hK.out _ _ ⟨(blk_cell BK155.out 0).trans rfl,(blk_cell BK155.out 1).trans rfl,(blk_cell BK155.out 2).trans rfl,(blk_cell BK155.out 3).trans rfl,(blk_cell BK155.out 4).trans rfl⟩ (fun hHeld=>?_)
         clear hK K
         refine norm_ (a':=?_) ?_ ?_
         rotate_left
         ·show Act.put _ (some 34) _ = _
          simp only [Act.put,List.setIfInBounds_toArray,List.set_cons_zero,List.set_cons_succ,i64_w,i32_w]
          rfl
         refine one_ (i:=4) (N:=some 36) #[true,true,true,true,true,false] rfl rfl (by kernel_rfl) (by decide) (fun K hK=>?_)
         refine goes_ Try.func42 (by kernel_rfl) rfl #[.int .i64 a0,.slice Ao39 t156.length co39,.agg #[.int .i64 ((rd_T71 t151 x28_1).f0.f0),.int .i64 ((rd_T71 t151 x28_1).f0.f1),.int .i64 ((rd_T71 t151 x28_1).f1),.int .i64 ((rd_T71 t151 x28_1).f2),.int .i64 ((rd_T71 t151 x28_1).f3)]] (by rfl) rfl rfl (by (try simp only [List.map_toArray,List.map_cons,List.map_nil]);first|done|rfl|(simp only [List.length_drop,List.length_take];rfl)) ?_
         with_reducible refine (difference_implied.calls k1 a0 _ _ t156 ((rd_T71 t151 x28_1).f0.f0) ((rd_T71 t151 x28_1).f0.f1) ((rd_T71 t151 x28_1).f1) ((rd_T71 t151 x28_1).f2) ((rd_T71 t151 x28_1).f3) false _ ?side1 ?side2 A23.out).mono ?_
         (case side1=>repeat (first|exact (Kd.R_reads' HO158.out).2.2|(with_reducible refine Kd.C_alloc ?_ _)|(with_reducible refine Kd.C_drewN ?_ _)|(with_reducible refine Kd.C_drew ?_)))
         (case side2=>exact (Kd.R_reads' HO158.out).2.1)
         rintro e w40 ⟨rfl,hb⟩
         refine ⟨_,rfl,?_⟩
         have n0_:=Aside0.mk (Kd.R_below (by (with_reducible repeat (first|apply Kd.R_alloc|apply Kd.R_drewN|apply Kd.R_drew));exact HO_26.out) hb)
         have n1_:=Aside0.mk (Kd.R_below (by (with_reducible repeat (first|apply Kd.R_alloc|apply Kd.R_drewN|apply Kd.R_drew));exact HO158.out) hb)
         have n2_:=Aside0.mk (blk_below (g:=gb145) (o:=.cells #[.int .i64 a2_0,.int .i64 a2_1,.int .i64 a2_2,.int .i64 a2_3,.int .i64 a2_4] 26 (0,0)) (by (with_reducible repeat (first|refine blk_drewN ?_ _|refine blk_drew ?_|refine blk_alloc ?_ _));exact BK145.out) hb)
         have n3_:=Aside0.mk (blk_below (g:=gb155) (o:=.cells #[.int .i64 ((rd_T71 t151 x28_1).f0.f0),.int .i64 ((rd_T71 t151 x28_1).f0.f1),.int .i64 ((rd_T71 t151 x28_1).f1),.int .i64 ((rd_T71 t151 x28_1).f2),.int .i64 ((rd_T71 t151 x28_1).f3)] 71 (0,0)) (by (with_reducible repeat (first|refine blk_drewN ?_ _|refine blk_drew ?_|refine blk_alloc ?_ _));exact BK155.out) hb)
         have n4_:=Aside0.mk (below_step (by repeat (first|(with_reducible first|exact HB.out|apply below_alloc|apply pw_below_drewN|apply below_drew1|refine below_set ?_ GE145.out|refine below_set ?_ GE155.out)|exact HB.out)) hb)
         clear HO_26
         clear HO158
         clear BK145
         clear BK155
         clear HB
         have HO_26:=n0_
         have HO158:=n1_
         have BK145:=n2_
         have BK155:=n3_
         have HB:=n4_
         clear n0_ n1_ n2_ n3_ n4_
         (try clear hb)
         (try clear hb2)
         (try clear hk)
         (try clear hi)
         refine hK.out _ _ ⟨(blk_cell BK155.out 0).trans rfl,(blk_cell BK155.out 1).trans rfl,(blk_cell BK155.out 2).trans rfl,(blk_cell BK155.out 3).trans rfl,(blk_cell BK155.out 4).trans rfl⟩ (fun hHeld=>?_)
         clear hK K
         refine norm_ (a':=?_) ?_ ?_
         rotate_left
         ·show Act.put _ (some 36) _ = _
          simp only [Act.put,List.setIfInBounds_toArray,List.set_cons_zero,List.set_cons_succ,i64_w,i32_w]
          rfl
         refine pure_ (i:=5) (N:=some 37) (v:=?_) (a':=?_) #[true,true,true,true,true,true] rfl rfl (by kernel_rfl) (fun _ _ _ h=>h) (Or.inl ⟨by rfl,?_⟩) ?_ ?_
         rotate_left
         ·intro w'
          go_simp
          with_reducible rfl
         rotate_left
         ·simp only [Act.put,List.setIfInBounds_toArray,List.set_cons_zero,List.set_cons_succ,i64_w,i32_w]
          rfl
         refine done_ (by kernel_rfl) ?_
         try go_wp2
         go_ret2
         exact ⟨by first|rfl|(simp [errW_none,errW_some] <;> rfl)|(simp [*,errW_none,errW_some] <;> rfl),by repeat (first|(with_reducible first|exact HB.out|apply below_alloc|apply pw_below_drewN|apply below_drew1|refine below_set ?_ GE145.out|refine below_set ?_ GE155.out)|exact HB.out)⟩
       ·rw [if_neg c21] at H
        exact absurd H (by simp)
      ·rw [if_neg c20] at H
       exact absurd H (by simp)
     ·rw [if_neg c19] at H
      have c19b0 : decide (x28_1 < (t151.length : Int)) = false:=decide_eq_false c19
      clear c19
      simp only [Option.some.injEq,Prod.mk.injEq] at H
      obtain ⟨rfl,rfl⟩:=H
      go_wp2
      go_ret2
      exact ⟨by first|rfl|(simp [errW_none,errW_some] <;> rfl)|(simp [*,errW_none,errW_some] <;> rfl),by repeat (first|(with_reducible first|exact HB.out|apply below_alloc|apply pw_below_drewN|apply below_drew1|refine below_set ?_ GE145.out)|exact HB.out)⟩
  ·rw [if_neg c7] at H
   have c7b0 : (t147 == 0) = false:=beq_eq_false_iff_ne.mpr c7
   have c7b1 : (t147 != 0) = true:=bne_iff_ne.mpr c7
   simp only [Option.some.injEq,Prod.mk.injEq] at H
   obtain ⟨rfl,rfl⟩:=H
   go_enter Try.func13,Try.ntmps13
   go_wp2_with (first|((with_reducible refine gate_dst (N:=5) rfl ?_);refine box_event ?hg (N:=5) ?hd (cs:=#[.int .i64 a2_0,.int .i64 a2_1,.int .i64 a2_2,.int .i64 a2_3,.int .i64 a2_4]) (t:=26) ?hr ?_;(case hd=>rfl);(case hg=>rfl);(case hr=>first|(go_simp;done)|(go_simp;rfl));intro gb145 hg w41 hbox hb;have n0_:=Aside0.mk (below_step (by repeat (first|(with_reducible first|exact HB.out|apply below_alloc|apply pw_below_drewN|apply below_drew1)|exact HB.out)) hb);have n1_:=Aside0.mk (hbox);have n2_:=Aside0.mk ((by rw [hg];exact (below_size (by repeat (first|(with_reducible first|exact HB.out|apply below_alloc|apply pw_below_drewN|apply below_drew1)|exact HB.out))) : w.heap.size ≤ gb145));have n3_:=Aside0.mk ((by rw [hg];exact (below_size (by repeat (first|(with_reducible first|exact HB.out|apply below_alloc|apply pw_below_drewN|apply below_drew1)|exact HB.out))) : w.heap.size ≤ gb145));clear HB;have HB:=n0_;have BK145:=n1_;have GW145:=n2_;have GE145:=n3_;clear n0_ n1_ n2_ n3_;clear hb hbox hg)|((with_reducible refine gate_callee (f:=30) rfl ?_);refine goesL_ (some 14) rfl rfl Try.func30 (by kernel_rfl) rfl #[.int .i64 a0,.slice A1 l1.length c1] rfl (by (try simp only [List.map_toArray,List.map_cons,List.map_nil]);first|done|rfl|(simp only [List.length_drop,List.length_take];rfl)) ?_;(with_reducible refine (difference_Valid.calls k a0 _ _ l1 t146 _ ?side1 ?side2 A4.out).mono ?_);(case side1=>repeat (first|exact (Kd.C_below HR1.out HB.out)|(with_reducible refine Kd.C_alloc ?_ _)|(with_reducible refine Kd.C_drewN ?_ _)|(with_reducible refine Kd.C_drew ?_)));(case side2=>exact HC1.out);rintro e w42 ⟨rfl,hb⟩;refine ⟨_,rfl,?_⟩;have n0_:=Aside0.mk (blk_below (g:=gb145) (o:=.cells #[.int .i64 a2_0,.int .i64 a2_1,.int .i64 a2_2,.int .i64 a2_3,.int .i64 a2_4] 26 (0,0)) (by (with_reducible repeat (first|refine blk_drewN ?_ _|refine blk_drew ?_|refine blk_alloc ?_ _));exact BK145.out) hb);have n1_:=Aside0.mk (below_step (by repeat (first|(with_reducible first|exact HB.out|apply below_alloc|apply pw_below_drewN|apply below_drew1|refine below_set ?_ GE145.out)|exact HB.out)) hb);clear BK145;clear HB;have BK145:=n0_;have HB:=n1_;clear n0_ n1_;(try clear hb);(try clear hb2);(try clear hk);(try clear hi);have hcz43_0 : w42.cell? ⟨gb145,0,none⟩ = some (.int .i64 a2_0):=(blk_cell BK145.out 0).trans rfl;have hcz43_1 : w42.cell? ⟨gb145,1,none⟩ = some (.int .i64 a2_1):=(blk_cell BK145.out 1).trans rfl;have hcz43_2 : w42.cell? ⟨gb145,2,none⟩ = some (.int .i64 a2_2):=(blk_cell BK145.out 2).trans rfl;have hcz43_3 : w42.cell? ⟨gb145,3,none⟩ = some (.int .i64 a2_3):=(blk_cell BK145.out 3).trans rfl;have hcz43_4 : w42.cell? ⟨gb145,4,none⟩ = some (.int .i64 a2_4):=(blk_cell BK145.out 4).trans rfl;have hfz43_0:=blk_frozen BK145.out 0;have hfz43_1:=blk_frozen BK145.out 1;have hfz43_2:=blk_frozen BK145.out 2;have hfz43_3:=blk_frozen BK145.out 3;have hfz43_4:=blk_frozen BK145.out 4)|((with_reducible refine gate_callee (f:=40) rfl ?_);refine goesL_ (some 20) rfl rfl Try.func40 (by kernel_rfl) rfl #[.int .i64 a0,.agg #[.int .i64 a2_0,.int .i64 a2_1,.int .i64 a2_2,.int .i64 a2_3,.int .i64 a2_4]] rfl (by (try simp only [List.map_toArray,List.map_cons,List.map_nil]);first|done|rfl|(simp only [List.length_drop,List.length_take];rfl)) ?_;(with_reducible refine (difference_one.calls k a0 a2_0 a2_1 a2_2 a2_3 a2_4 t147 _ A6.out).mono ?_);rintro e w44 ⟨rfl,hb⟩;refine ⟨_,rfl,?_⟩;have n0_:=Aside0.mk (blk_below (g:=gb145) (o:=.cells #[.int .i64 a2_0,.int .i64 a2_1,.int .i64 a2_2,.int .i64 a2_3,.int .i64 a2_4] 26 (0,0)) (by (with_reducible repeat (first|refine blk_drewN ?_ _|refine blk_drew ?_|refine blk_alloc ?_ _));exact BK145.out) hb);have n1_:=Aside0.mk (below_step (by repeat (first|(with_reducible first|exact HB.out|apply below_alloc|apply pw_below_drewN|apply below_drew1|refine below_set ?_ GE145.out)|exact HB.out)) hb);clear BK145;clear HB;have BK145:=n0_;have HB:=n1_;clear n0_ n1_;(try clear hb);(try clear hb2);(try clear hk);(try clear hi)))
   go_ret2
   exact ⟨by first|rfl|(simp [errW_none,errW_some] <;> rfl)|(simp [*,errW_none,errW_some] <;> rfl),by repeat (first|(with_reducible first|exact HB.out|apply below_alloc|apply pw_below_drewN|apply below_drew1|refine below_set ?_ GE145.out)|exact HB.out)⟩
 ·rw [if_neg c5] at H
  have c5b0 : (t146 == 0) = false:=beq_eq_false_iff_ne.mpr c5
  have c5b1 : (t146 != 0) = true:=bne_iff_ne.mpr c5
  simp only [Option.some.injEq,Prod.mk.injEq] at H
  obtain ⟨rfl,rfl⟩:=H
  go_enter Try.func13,Try.ntmps13
  go_wp2_with (first|((with_reducible refine gate_dst (N:=5) rfl ?_);refine box_event ?hg (N:=5) ?hd (cs:=#[.int .i64 a2_0,.int .i64 a2_1,.int .i64 a2_2,.int .i64 a2_3,.int .i64 a2_4]) (t:=26) ?hr ?_;(case hd=>rfl);(case hg=>rfl);(case hr=>first|(go_simp;done)|(go_simp;rfl));intro gb145 hg w45 hbox hb;have n0_:=Aside0.mk (below_step (by repeat (first|(with_reducible first|exact HB.out|apply below_alloc|apply pw_below_drewN|apply below_drew1)|exact HB.out)) hb);have n1_:=Aside0.mk (hbox);have n2_:=Aside0.mk ((by rw [hg];exact (below_size (by repeat (first|(with_reducible first|exact HB.out|apply below_alloc|apply pw_below_drewN|apply below_drew1)|exact HB.out))) : w.heap.size ≤ gb145));have n3_:=Aside0.mk ((by rw [hg];exact (below_size (by repeat (first|(with_reducible first|exact HB.out|apply below_alloc|apply pw_below_drewN|apply below_drew1)|exact HB.out))) : w.heap.size ≤ gb145));clear HB;have HB:=n0_;have BK145:=n1_;have GW145:=n2_;have GE145:=n3_;clear n0_ n1_ n2_ n3_;clear hb hbox hg)|((with_reducible refine gate_callee (f:=30) rfl ?_);refine goesL_ (some 14) rfl rfl Try.func30 (by kernel_rfl) rfl #[.int .i64 a0,.slice A1 l1.length c1] rfl (by (try simp only [List.map_toArray,List.map_cons,List.map_nil]);first|done|rfl|(simp only [List.length_drop,List.length_take];rfl)) ?_;(with_reducible refine (difference_Valid.calls k a0 _ _ l1 t146 _ ?side1 ?side2 A4.out).mono ?_);(case side1=>repeat (first|exact (Kd.C_below HR1.out HB.out)|(with_reducible refine Kd.C_alloc ?_ _)|(with_reducible refine Kd.C_drewN ?_ _)|(with_reducible refine Kd.C_drew ?_)));(case side2=>exact HC1.out);rintro e w46 ⟨rfl,hb⟩;refine ⟨_,rfl,?_⟩;have n0_:=Aside0.mk (blk_below (g:=gb145) (o:=.cells #[.int .i64 a2_0,.int .i64 a2_1,.int .i64 a2_2,.int .i64 a2_3,.int .i64 a2_4] 26 (0,0)) (by (with_reducible repeat (first|refine blk_drewN ?_ _|refine blk_drew ?_|refine blk_alloc ?_ _));exact BK145.out) hb);have n1_:=Aside0.mk (below_step (by repeat (first|(with_reducible first|exact HB.out|apply below_alloc|apply pw_below_drewN|apply below_drew1|refine below_set ?_ GE145.out)|exact HB.out)) hb);clear BK145;clear HB;have BK145:=n0_;have HB:=n1_;clear n0_ n1_;(try clear hb);(try clear hb2);(try clear hk);(try clear hi)))
  go_ret2
  exact ⟨by first|rfl|(simp [errW_none,errW_some] <;> rfl)|(simp [*,errW_none,errW_some] <;> rfl),by repeat (first|(with_reducible first|exact HB.out|apply below_alloc|apply pw_below_drewN|apply below_drew1|refine below_set ?_ GE145.out)|exact HB.out)⟩

end Go.Proofs.Yteebkkdbkkibmaa.Pr
