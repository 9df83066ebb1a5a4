/- Functions of this claim and what their calls compute, written by wip/tools/mp.py, a variant of the kit printer. Conditions: each theorem has its own. -/
import Derived.Test.YteebkkdbkkibmaaPr0
import Derived.Test.YteebkkdbkkibmaaPr13
import Derived.Test.YteebkkdbkkibmaaPr14
import Derived.Test.YteebkkdbkkibmaaPr17
namespace Go.Proofs.Yteebkkdbkkibmaa.Pr
open Go.RowKit Go.Proofs.YteebkkdbkkibmaaW.PrintWords Go.Proofs.YteebkkdbkkibmaaW.PrintLast Go.Proofs.YteebkkdbkkibmaaW.PrintMore
attribute [local go_sem] max2_int min2_int max_two min_two max_three min_three max_four min_four   -- for this text's walks alone
set_option linter.unusedVariables false
set_option linter.unusedSimpArgs false

/-! ### scarfjointref03_Implies: function 15 -/
def scarfjointref03_Implies.l0 : Nat → List (List Int) → List (S79) → Int → Option (Bool × Int)
 | 0,_,_,_ => none
 | k + 1,x10,x12,x13 => if x13 < (x12.length : Int) then (if 0 ≤ x13 then (if 0 ≤ ((rd_T79 x12 x13).f1) then (if ((rd_T79 x12 x13).f1) < (x10.length : Int) then (if 0 ≤ ((rd_T79 x12 x13).f2) then (if ((rd_T79 x12 x13).f2) < ((rd_L5 x10 ((rd_T79 x12 x13).f1)).length : Int) then (if (rd (rd_L5 x10 ((rd_T79 x12 x13).f1)) ((rd_T79 x12 x13).f2)) > ((rd_T79 x12 x13).f3) then (some (false,0)) else (scarfjointref03_Implies.l0 k x10 x12 (wrap64 (x13 + 1)))) else (none)) else (none)) else (none)) else (none)) else (none)) else (some (true,0))
def scarfjointref03_Implies.f (k : Nat) (a0 : Int) (l1 : List (S26)) (a2_0 : Int) (a2_1 : Int) (a2_2 : Int) (a2_3 : Int) (a2_4 : Int) : Option (Bool × Int):=(scarfjointref03_Valid.f k a0 l1).bind fun t327=>(if t327 = 0 then ((scarfjointref03_One.f k a0 a2_0 a2_1 a2_2 a2_3 a2_4).bind fun t328=>(if t328 = 0 then ((scarfjointref03_distances.f k a0 l1).bind fun bt329=>(if bt329.2 = true then ((scarfjointref03_arcs.f k (([(⟨a2_0,(⟨a2_1,a2_2⟩ : S24),(⟨a2_3,a2_4⟩ : S24)⟩ : S26)] : List (S26)))).bind fun t336=>(scarfjointref03_Implies.l0 k bt329.1 t336 0)) else (some (true,0)))) else (some (false,t328)))) else (some (false,t327)))
theorem scarfjointref03_Implies.mono_l : ∀ k,(∀ y0 y1 y2,LeO (scarfjointref03_Implies.l0 k y0 y1 y2) (scarfjointref03_Implies.l0 (k + 1) y0 y1 y2))
 | 0 => fun _ _ _ r h => by simp [scarfjointref03_Implies.l0] at h
 | k + 1 => by
  have ih0:=scarfjointref03_Implies.mono_l k
  ·intro y0 y1 y2
   unfold scarfjointref03_Implies.l0
   repeat' first
   | (with_reducible exact ih0 _ _ _)
   | (with_reducible exact scarfjointref03_One.mono _ _ _ _ _ _ _)
   | (with_reducible exact scarfjointref03_Valid.mono _ _ _)
   | (with_reducible exact scarfjointref03_arcs.mono _ _)
   | (with_reducible exact scarfjointref03_distances.mono _ _ _)
   | (with_reducible exact LeO.refl _)
   | (with_reducible exact LeO.none _)
   | (with_reducible refine LeO.ite ?_ ?_)
   | (with_reducible refine LeO.bind ?_ (fun _ => ?_))
   | exact ih0 _ _ _
   | exact scarfjointref03_One.mono _ _ _ _ _ _ _
   | exact scarfjointref03_Valid.mono _ _ _
   | exact scarfjointref03_arcs.mono _ _
   | exact scarfjointref03_distances.mono _ _ _
   | exact LeO.none _
   | refine LeO.ite ?_ ?_
   | refine LeO.bind ?_ (fun _ => ?_)
theorem scarfjointref03_Implies.mono : ∀ a0 a1 a2 a3 a4 a5 a6 k,LeO (scarfjointref03_Implies.f k a0 a1 a2 a3 a4 a5 a6) (scarfjointref03_Implies.f (k + 1) a0 a1 a2 a3 a4 a5 a6):=by
 intro a0 a1 a2 a3 a4 a5 a6 k
 have ih0:=scarfjointref03_Implies.mono_l k
 unfold scarfjointref03_Implies.f
 repeat' first
   | (with_reducible exact ih0 _ _ _)
   | (with_reducible exact scarfjointref03_One.mono _ _ _ _ _ _ _)
   | (with_reducible exact scarfjointref03_Valid.mono _ _ _)
   | (with_reducible exact scarfjointref03_arcs.mono _ _)
   | (with_reducible exact scarfjointref03_distances.mono _ _ _)
   | (with_reducible exact LeO.refl _)
   | (with_reducible exact LeO.none _)
   | (with_reducible refine LeO.ite ?_ ?_)
   | (with_reducible refine LeO.bind ?_ (fun _ => ?_))
   | exact ih0 _ _ _
   | exact scarfjointref03_One.mono _ _ _ _ _ _ _
   | exact scarfjointref03_Valid.mono _ _ _
   | exact scarfjointref03_arcs.mono _ _
   | exact scarfjointref03_distances.mono _ _ _
   | exact LeO.none _
   | refine LeO.ite ?_ ?_
   | refine LeO.bind ?_ (fun _ => ?_)
set_option maxHeartbeats 8000000 in
set_option maxRecDepth 100000 in
theorem scarfjointref03_Implies.calls (k : Nat) (a0 : Int) (A1 : Option Addr) (c1 : Nat) (l1 : List (S26)) (a2_0 : Int) (a2_1 : Int) (a2_2 : Int) (a2_3 : Int) (a2_4 : Int) (r1 : Bool) (r2 : Int) (w : World) (hr1 : Kd.C k26 w A1 l1.length l1) (hc1 : l1.length ≤ c1) (h : scarfjointref03_Implies.f k a0 l1 a2_0 a2_1 a2_2 a2_3 a2_4 = some (r1,r2)) :
  Calls Try.prog 15 #[.int .i64 a0,.slice A1 l1.length c1,.agg #[.int .i64 a2_0,.int .i64 a2_1,.int .i64 a2_2,.int .i64 a2_3,.int .i64 a2_4]] w fun e w'=>e = .returned (.tuple #[.bool r1,.int .i64 r2]) ∧ Below w.heap.size w w':=by
 have hu26:=Try.underlying26
 have HR1:=Aside0.mk hr1
 have HC1:=Aside0.mk hc1
 clear hr1 hc1
 have HB:=Aside0.mk (Below.refl w.heap.size w)
 have H : ((scarfjointref03_Valid.f k a0 l1).bind fun t327=>(if t327 = 0 then ((scarfjointref03_One.f k a0 a2_0 a2_1 a2_2 a2_3 a2_4).bind fun t328=>(if t328 = 0 then ((scarfjointref03_distances.f k a0 l1).bind fun bt329=>(if bt329.2 = true then ((scarfjointref03_arcs.f k (([(⟨a2_0,(⟨a2_1,a2_2⟩ : S24),(⟨a2_3,a2_4⟩ : S24)⟩ : S26)] : List (S26)))).bind fun t336=>(scarfjointref03_Implies.l0 k bt329.1 t336 0)) else (some (true,0)))) else (some (false,t328)))) else (some (false,t327)))) = some (r1,r2):=h
 clear h
 replace H:=Option.bind_eq_some_iff.mp H
 obtain ⟨t327,A40,H⟩:=H
 replace H : (if t327 = 0 then ((scarfjointref03_One.f k a0 a2_0 a2_1 a2_2 a2_3 a2_4).bind fun t328=>(if t328 = 0 then ((scarfjointref03_distances.f k a0 l1).bind fun bt329=>(if bt329.2 = true then ((scarfjointref03_arcs.f k (([(⟨a2_0,(⟨a2_1,a2_2⟩ : S24),(⟨a2_3,a2_4⟩ : S24)⟩ : S26)] : List (S26)))).bind fun t336=>(scarfjointref03_Implies.l0 k bt329.1 t336 0)) else (some (true,0)))) else (some (false,t328)))) else (some (false,t327))) = some (r1,r2):=H
 have A4:=Aside0.mk A40
 clear A40
 by_cases c5 : t327 = 0
 ·rw [if_pos c5] at H
  have c5b0 : (t327 == 0) = true:=beq_iff_eq.mpr c5
  have c5b1 : (t327 != 0) = false:=bne_eq_false_iff_eq.mpr c5
  clear c5
  replace H:=Option.bind_eq_some_iff.mp H
  obtain ⟨t328,A60,H⟩:=H
  replace H : (if t328 = 0 then ((scarfjointref03_distances.f k a0 l1).bind fun bt329=>(if bt329.2 = true then ((scarfjointref03_arcs.f k (([(⟨a2_0,(⟨a2_1,a2_2⟩ : S24),(⟨a2_3,a2_4⟩ : S24)⟩ : S26)] : List (S26)))).bind fun t336=>(scarfjointref03_Implies.l0 k bt329.1 t336 0)) else (some (true,0)))) else (some (false,t328))) = some (r1,r2):=H
  have A6:=Aside0.mk A60
  clear A60
  by_cases c7 : t328 = 0
  ·rw [if_pos c7] at H
   have c7b0 : (t328 == 0) = true:=beq_iff_eq.mpr c7
   have c7b1 : (t328 != 0) = false:=bne_eq_false_iff_eq.mpr c7
   clear c7
   replace H:=Option.bind_eq_some_iff.mp H
   obtain ⟨⟨t329,t330⟩,A80,H⟩:=H
   replace H : (if t330 = true then ((scarfjointref03_arcs.f k (([(⟨a2_0,(⟨a2_1,a2_2⟩ : S24),(⟨a2_3,a2_4⟩ : S24)⟩ : S26)] : List (S26)))).bind fun t336=>(scarfjointref03_Implies.l0 k t329 t336 0)) else (some (true,0))) = some (r1,r2):=H
   have A8:=Aside0.mk A80
   clear A80
   by_cases c9 : t330 = true
   ·subst c9
    have H1 : ((scarfjointref03_arcs.f k (([(⟨a2_0,(⟨a2_1,a2_2⟩ : S24),(⟨a2_3,a2_4⟩ : S24)⟩ : S26)] : List (S26)))).bind fun t336=>(scarfjointref03_Implies.l0 k t329 t336 0)) = some (r1,r2):=by rw [if_pos rfl] at H;exact H
    clear H
    have H:=H1
    clear H1
    obtain ⟨y333,hy333⟩ : ∃ y_ : List (S26),y_ = (([(⟨a2_0,(⟨a2_1,a2_2⟩ : S24),(⟨a2_3,a2_4⟩ : S24)⟩ : S26)] : List (S26))):=⟨_,rfl⟩
    replace H : ((scarfjointref03_arcs.f k y333).bind fun t336=>(scarfjointref03_Implies.l0 k t329 t336 0)) = some (r1,r2):=by first|(rw [hy333];with_reducible exact H)|(have H2_:=(Option.bind_some _ _).symm.trans H;rw [hy333];with_reducible exact H2_)|(have H2_:=(Option.bind_some _ _).symm.trans H;with_reducible exact H2_)|with_reducible exact H|(rw [hy333];exact H)|exact H
    have Ny333:=Aside0.mk hy333
    clear hy333
    replace H:=Option.bind_eq_some_iff.mp H
    obtain ⟨t336,A100,H⟩:=H
    replace H : (scarfjointref03_Implies.l0 k t329 t336 0) = some (r1,r2):=H
    have A10:=Aside0.mk A100
    clear A100
    have H':=Aside0.mk H
    clear H
    go_enter Try.func15,Try.ntmps15
    go_wp2_with (first|((with_reducible refine gate_dst (N:=5) rfl ?_);refine box_event ?hg (N:=5) ?hd (cs:=#[.int .i64 a2_0,.int .i64 a2_1,.int .i64 a2_2,.int .i64 a2_3,.int .i64 a2_4]) (t:=26) ?hr ?_;(case hd=>rfl);(case hg=>rfl);(case hr=>first|(go_simp;done)|(go_simp;rfl));intro gb326 hg w11 hbox hb;have n0_:=Aside0.mk (below_step (by repeat (first|(with_reducible first|exact HB.out|apply below_alloc|apply pw_below_drewN|apply below_drew1)|exact HB.out)) hb);have n1_:=Aside0.mk (hbox);have n2_:=Aside0.mk ((by rw [hg];exact (below_size (by repeat (first|(with_reducible first|exact HB.out|apply below_alloc|apply pw_below_drewN|apply below_drew1)|exact HB.out))) : w.heap.size ≤ gb326));have n3_:=Aside0.mk ((by rw [hg];exact (below_size (by repeat (first|(with_reducible first|exact HB.out|apply below_alloc|apply pw_below_drewN|apply below_drew1)|exact HB.out))) : w.heap.size ≤ gb326));clear HB;have HB:=n0_;have BK326:=n1_;have GW326:=n2_;have GE326:=n3_;clear n0_ n1_ n2_ n3_;clear hb hbox hg)|(go_at_call 31;(with_reducible refine (scarfjointref03_Valid.calls k a0 _ _ l1 t327 _ ?side1 ?side2 A4.out).mono ?_);(case side1=>repeat (first|exact (Kd.C_below HR1.out HB.out)|(with_reducible refine Kd.C_alloc ?_ _)|(with_reducible refine Kd.C_drewN ?_ _)|(with_reducible refine Kd.C_drew ?_)));(case side2=>exact HC1.out);rintro e w12 ⟨rfl,hb⟩;have n0_:=Aside0.mk (blk_below (g:=gb326) (o:=.cells #[.int .i64 a2_0,.int .i64 a2_1,.int .i64 a2_2,.int .i64 a2_3,.int .i64 a2_4] 26 (0,0)) (by (with_reducible repeat (first|refine blk_drewN ?_ _|refine blk_drew ?_|refine blk_alloc ?_ _));exact BK326.out) hb);have n1_:=Aside0.mk (below_step (by repeat (first|(with_reducible first|exact HB.out|apply below_alloc|apply pw_below_drewN|apply below_drew1|refine below_set ?_ GE326.out)|exact HB.out)) hb);clear BK326;clear HB;have BK326:=n0_;have HB:=n1_;clear n0_ n1_;(try clear hb);(try clear hb2);(try clear hk);(try clear hi);have hcz13_0 : w12.cell? ⟨gb326,0,none⟩ = some (.int .i64 a2_0):=(blk_cell BK326.out 0).trans rfl;have hcz13_1 : w12.cell? ⟨gb326,1,none⟩ = some (.int .i64 a2_1):=(blk_cell BK326.out 1).trans rfl;have hcz13_2 : w12.cell? ⟨gb326,2,none⟩ = some (.int .i64 a2_2):=(blk_cell BK326.out 2).trans rfl;have hcz13_3 : w12.cell? ⟨gb326,3,none⟩ = some (.int .i64 a2_3):=(blk_cell BK326.out 3).trans rfl;have hcz13_4 : w12.cell? ⟨gb326,4,none⟩ = some (.int .i64 a2_4):=(blk_cell BK326.out 4).trans rfl;have hfz13_0:=blk_frozen BK326.out 0;have hfz13_1:=blk_frozen BK326.out 1;have hfz13_2:=blk_frozen BK326.out 2;have hfz13_3:=blk_frozen BK326.out 3;have hfz13_4:=blk_frozen BK326.out 4)|(go_at_call 43;(with_reducible refine (scarfjointref03_One.calls k a0 a2_0 a2_1 a2_2 a2_3 a2_4 t328 _ A6.out).mono ?_);rintro e w14 ⟨rfl,hb⟩;have n0_:=Aside0.mk (blk_below (g:=gb326) (o:=.cells #[.int .i64 a2_0,.int .i64 a2_1,.int .i64 a2_2,.int .i64 a2_3,.int .i64 a2_4] 26 (0,0)) (by (with_reducible repeat (first|refine blk_drewN ?_ _|refine blk_drew ?_|refine blk_alloc ?_ _));exact BK326.out) hb);have n1_:=Aside0.mk (below_step (by repeat (first|(with_reducible first|exact HB.out|apply below_alloc|apply pw_below_drewN|apply below_drew1|refine below_set ?_ GE326.out)|exact HB.out)) hb);clear BK326;clear HB;have BK326:=n0_;have HB:=n1_;clear n0_ n1_;(try clear hb);(try clear hb2);(try clear hk);(try clear hi))|(go_at_call 44;(with_reducible refine (scarfjointref03_distances.calls k a0 _ _ l1 t329 true _ ?side1 ?side2 A8.out).mono ?_);(case side1=>repeat (first|exact (Kd.C_below HR1.out HB.out)|(with_reducible refine Kd.C_alloc ?_ _)|(with_reducible refine Kd.C_drewN ?_ _)|(with_reducible refine Kd.C_drew ?_)));(case side2=>exact HC1.out);rintro e w15 ⟨v331,rfl,ho0,hb⟩;have n0_:=Aside0.mk (Kd.S_lower ho0 (below_size (by repeat (first|(with_reducible first|exact HB.out|apply below_alloc|apply pw_below_drewN|apply below_drew1|refine below_set ?_ GE326.out)|exact HB.out))));have n1_:=Aside0.mk (blk_below (g:=gb326) (o:=.cells #[.int .i64 a2_0,.int .i64 a2_1,.int .i64 a2_2,.int .i64 a2_3,.int .i64 a2_4] 26 (0,0)) (by (with_reducible repeat (first|refine blk_drewN ?_ _|refine blk_drew ?_|refine blk_alloc ?_ _));exact BK326.out) hb);have n2_:=Aside0.mk (below_step (by repeat (first|(with_reducible first|exact HB.out|apply below_alloc|apply pw_below_drewN|apply below_drew1|refine below_set ?_ GE326.out)|exact HB.out)) hb);clear BK326;clear HB;have HO332:=n0_;have BK326:=n1_;have HB:=n2_;clear n0_ n1_ n2_;(try clear hb);(try clear hb2);(try clear hk);(try clear hi);(try clear ho0);have hcz16_0 : w15.cell? ⟨gb326,0,none⟩ = some (.int .i64 a2_0):=(blk_cell BK326.out 0).trans rfl;have hcz16_1 : w15.cell? ⟨gb326,1,none⟩ = some (.int .i64 a2_1):=(blk_cell BK326.out 1).trans rfl;have hcz16_2 : w15.cell? ⟨gb326,2,none⟩ = some (.int .i64 a2_2):=(blk_cell BK326.out 2).trans rfl;have hcz16_3 : w15.cell? ⟨gb326,3,none⟩ = some (.int .i64 a2_3):=(blk_cell BK326.out 3).trans rfl;have hcz16_4 : w15.cell? ⟨gb326,4,none⟩ = some (.int .i64 a2_4):=(blk_cell BK326.out 4).trans rfl;have hfz16_0:=blk_frozen BK326.out 0;have hfz16_1:=blk_frozen BK326.out 1;have hfz16_2:=blk_frozen BK326.out 2;have hfz16_3:=blk_frozen BK326.out 3;have hfz16_4:=blk_frozen BK326.out 4)|((with_reducible refine gate_dst (N:=35) rfl ?_);refine Kd.R_lit k26 _ 26 ?hg (N:=35) ?hd (xs:=([(⟨a2_0,(⟨a2_1,a2_2⟩ : S24),(⟨a2_3,a2_4⟩ : S24)⟩ : S26)] : List (S26))) (inner:=[.int .i64 a2_0,.int .i64 a2_1,.int .i64 a2_2,.int .i64 a2_3,.int .i64 a2_4]) (ok:=fun _=>True) (okp:=fun _=>True) ?hr ?hp (fun _ hk=>hk) trivial (Below.refl _ _) (Nat.le_refl _) (by simp) ?_;(case hd=>rfl);(case hg=>rfl);(case hr=>first|(go_simp;done)|(go_simp;rfl));(case hp=>exact (Reps.c5 (show Kd.M k26 _ _ _ (⟨a2_0,(⟨a2_1,a2_2⟩ : S24),(⟨a2_3,a2_4⟩ : S24)⟩ : S26) [.int .i64 a2_0,.int .i64 a2_1,.int .i64 a2_2,.int .i64 a2_3,.int .i64 a2_4] from (k26_mkM _ _ _ (⟨a2_0,(⟨a2_1,a2_2⟩ : S24),(⟨a2_3,a2_4⟩ : S24)⟩ : S26) )) (Reps.none _ _)));intro v334 w17 ho18 hb hg_ hnew_;clear hg_ hnew_;(first|rw [← Ny333.out] at ho18|(simp only [Int.reduceToNat] at ho18;rw [← Ny333.out] at ho18));have n0_:=Aside0.mk (Kd.S_below (by (with_reducible repeat (first|apply Kd.S_alloc|apply Kd.S_drewN|apply Kd.S_drew));exact HO332.out) hb);have n1_:=Aside0.mk (Kd.R_lower (Kd.R_newB ho18 (g:=gb326) (o:=.cells #[.int .i64 a2_0,.int .i64 a2_1,.int .i64 a2_2,.int .i64 a2_3,.int .i64 a2_4] 26 (0,0)) (by (with_reducible repeat (first|refine blk_drewN ?_ _|refine blk_drew ?_|refine blk_alloc ?_ _));exact BK326.out)) (below_size (by repeat (first|(with_reducible first|exact HB.out|apply below_alloc|apply pw_below_drewN|apply below_drew1|refine below_set ?_ GE326.out)|exact HB.out))));have n2_:=Aside0.mk (blk_below (g:=gb326) (o:=.cells #[.int .i64 a2_0,.int .i64 a2_1,.int .i64 a2_2,.int .i64 a2_3,.int .i64 a2_4] 26 (0,0)) (by (with_reducible repeat (first|refine blk_drewN ?_ _|refine blk_drew ?_|refine blk_alloc ?_ _));exact BK326.out) hb);have n3_:=Aside0.mk (below_step (by repeat (first|(with_reducible first|exact HB.out|apply below_alloc|apply pw_below_drewN|apply below_drew1|refine below_set ?_ GE326.out)|exact HB.out)) hb);clear HO332;clear BK326;clear HB;have HO332:=n0_;have HO335:=n1_;have BK326:=n2_;have HB:=n3_;clear n0_ n1_ n2_ n3_;clear hb ho18;obtain ⟨Ao19,co19,eo19⟩:=Kd.R_slice HO335.out;subst eo19)|(go_at_call 45;(with_reducible refine (scarfjointref03_arcs.calls k _ _ y333 t336 _ ?side1 ?side2 A10.out).mono ?_);(case side1=>repeat (first|exact (Kd.R_reads' HO335.out).2.2|(with_reducible refine Kd.C_alloc ?_ _)|(with_reducible refine Kd.C_drewN ?_ _)|(with_reducible refine Kd.C_drew ?_)));(case side2=>exact (Kd.R_reads' HO335.out).2.1);rintro e w20 ⟨v337,rfl,ho0,hb⟩;have n0_:=Aside0.mk (Kd.S_below (by (with_reducible repeat (first|apply Kd.S_alloc|apply Kd.S_drewN|apply Kd.S_drew));exact HO332.out) hb);have n1_:=Aside0.mk (Kd.R_below (by (with_reducible repeat (first|apply Kd.R_alloc|apply Kd.R_drewN|apply Kd.R_drew));exact HO335.out) hb);have n2_:=Aside0.mk (Kd.R_lower ho0 (below_size (by repeat (first|(with_reducible first|exact HB.out|apply below_alloc|apply pw_below_drewN|apply below_drew1|refine below_set ?_ GE326.out)|exact HB.out))));have n3_:=Aside0.mk (blk_below (g:=gb326) (o:=.cells #[.int .i64 a2_0,.int .i64 a2_1,.int .i64 a2_2,.int .i64 a2_3,.int .i64 a2_4] 26 (0,0)) (by (with_reducible repeat (first|refine blk_drewN ?_ _|refine blk_drew ?_|refine blk_alloc ?_ _));exact BK326.out) hb);have n4_:=Aside0.mk (below_step (by repeat (first|(with_reducible first|exact HB.out|apply below_alloc|apply pw_below_drewN|apply below_drew1|refine below_set ?_ GE326.out)|exact HB.out)) hb);clear HO332;clear HO335;clear BK326;clear HB;have HO332:=n0_;have HO335:=n1_;have HO338:=n2_;have BK326:=n3_;have HB:=n4_;clear n0_ n1_ n2_ n3_ n4_;(try clear hb);(try clear hb2);(try clear hk);(try clear hi);(try clear ho0)))
    go_loopg [13] k (fun kq v13 w'=>∃ (x13_1 : Int),v13 = .int .i64 x13_1 ∧ Aside0 (scarfjointref03_Implies.l0 kq t329 t336 x13_1 = some (r1,r2)) ∧ Aside0 (kq ≤ k) ∧ Aside0 (Kd.S (Kd.slice 3 (Kd.int .i64)) 36 w' w.heap.size (fun _=>True) v331 t329) ∧ Aside0 (Kd.R k79 79 w' w.heap.size (fun _=>True) v337 t336) ∧ Aside0 (w'.heap[gb326]? = some (.cells #[.int .i64 a2_0,.int .i64 a2_1,.int .i64 a2_2,.int .i64 a2_3,.int .i64 a2_4] 26 (0,0))) ∧ Aside0 (Below w.heap.size w w'))
    case atStart=>exact ⟨(0),(by first|rfl|(simp;done)|(simp [*];done)),H',⟨Nat.le_refl _⟩,⟨by (with_reducible repeat (first|apply Kd.S_alloc|apply Kd.S_drewN|apply Kd.S_drew));exact HO332.out⟩,⟨by (with_reducible repeat (first|apply Kd.R_alloc|apply Kd.R_drewN|apply Kd.R_drew));exact HO338.out⟩,⟨by (with_reducible repeat (first|refine blk_drewN ?_ _|refine blk_drew ?_|refine blk_alloc ?_ _));exact BK326.out⟩,⟨by repeat (first|(with_reducible first|exact HB.out|apply below_alloc|apply pw_below_drewN|apply below_drew1|refine below_set ?_ GE326.out)|exact HB.out)⟩⟩
    case round =>
     clear H'
     try clear c1
     try clear p2
     try clear c5
     try clear c5b0
     try clear c5b1
     try clear c7
     try clear c7b0
     try clear c7b1
     try clear c9
     try clear c15
     try clear hcz13_0
     try clear hcz13_1
     try clear hcz13_2
     try clear hcz13_3
     try clear hcz13_4
     try clear hcz16_0
     try clear hcz16_1
     try clear hcz16_2
     try clear hcz16_3
     try clear hcz16_4
     try clear hfz13_0
     try clear hfz13_1
     try clear hfz13_2
     try clear hfz13_3
     try clear hfz13_4
     try clear hfz16_0
     try clear hfz16_1
     try clear hfz16_2
     try clear hfz16_3
     try clear hfz16_4
     obtain ⟨x13_1,rfl,HA,HK1,HO_10,HO_12,BK326,HB⟩:=hrel
     cases gk with
     | zero => exact absurd HA.out (by simp [scarfjointref03_Implies.l0])
     | succ k1 =>
      have H:=HA.out
      clear HA
      simp only [scarfjointref03_Implies.l0] at H
      by_cases c21 : x13_1 < (t336.length : Int)
      ·rw [if_pos c21] at H
       have c21b0 : decide (x13_1 < (t336.length : Int)) = true:=decide_eq_true c21
       clear c21
       by_cases c22 : 0 ≤ x13_1
       ·rw [if_pos c22] at H
        have c22b0 : decide (0 ≤ x13_1) = true:=decide_eq_true c22
        clear c22
        by_cases c23 : 0 ≤ ((rd_T79 t336 x13_1).f1)
        ·rw [if_pos c23] at H
         have c23b0 : decide (0 ≤ ((rd_T79 t336 x13_1).f1)) = true:=decide_eq_true c23
         clear c23
         by_cases c24 : ((rd_T79 t336 x13_1).f1) < (t329.length : Int)
         ·rw [if_pos c24] at H
          have c24b0 : decide (((rd_T79 t336 x13_1).f1) < (t329.length : Int)) = true:=decide_eq_true c24
          clear c24
          by_cases c25 : 0 ≤ ((rd_T79 t336 x13_1).f2)
          ·rw [if_pos c25] at H
           have c25b0 : decide (0 ≤ ((rd_T79 t336 x13_1).f2)) = true:=decide_eq_true c25
           clear c25
           by_cases c26 : ((rd_T79 t336 x13_1).f2) < ((rd_L5 t329 ((rd_T79 t336 x13_1).f1)).length : Int)
           ·rw [if_pos c26] at H
            have c26b0 : decide (((rd_T79 t336 x13_1).f2) < ((rd_L5 t329 ((rd_T79 t336 x13_1).f1)).length : Int)) = true:=decide_eq_true c26
            clear c26
            by_cases c27 : (rd (rd_L5 t329 ((rd_T79 t336 x13_1).f1)) ((rd_T79 t336 x13_1).f2)) > ((rd_T79 t336 x13_1).f3)
            ·rw [if_pos c27] at H
             have c27b0 : decide (((rd_T79 t336 x13_1).f3) < (rd (rd_L5 t329 ((rd_T79 t336 x13_1).f1)) ((rd_T79 t336 x13_1).f2))) = true:=decide_eq_true c27
             clear c27
             simp only [Option.some.injEq,Prod.mk.injEq] at H
             obtain ⟨rfl,rfl⟩:=H
             obtain ⟨Ao28,co28,eo28⟩:=Kd.R_slice HO_12.out
             subst eo28
             have p339 : 0 ≤ (x13_1 : Int):=of_decide_eq_true (by first|(with_reducible assumption)|assumption)
             have q339 : x13_1 < (t336.length : Int):=of_decide_eq_true (by first|(with_reducible assumption)|assumption)
             obtain ⟨ad339,e339,hx339_0,hx339_1,hx339_2,hx339_3,hx339_4⟩:=at_T79 (Kd.R_reads' HO_12.out).2.2 x13_1 p339 q339
             cases e339
             replace p339:=eq_true p339
             replace q339:=eq_true q339
             obtain ⟨Ao29,co29,eo29⟩:=Kd.S_slice HO_10.out
             subst eo29
             have p340 : 0 ≤ (((rd_T79 t336 x13_1).f1) : Int):=of_decide_eq_true (by first|(with_reducible assumption)|assumption)
             have q340 : ((rd_T79 t336 x13_1).f1) < (t329.length : Int):=of_decide_eq_true (by first|(with_reducible assumption)|assumption)
             obtain ⟨ad340,A340_0,c340_0,e340,hx340_0,hl340_0,hi340_0⟩:=at_L5 (Kd.S_reads' HO_10.out).2.2 ((rd_T79 t336 x13_1).f1) p340 q340
             cases e340
             obtain ⟨ce340,hce340,hMe340,hcc340⟩:=Kd.S_get HO_10.out [] ((rd_T79 t336 x13_1).f1) p340 (by first|exact q340|exact of_decide_eq_true (by first|(with_reducible assumption)|assumption)|(have e_:=(Kd.S_reads' HO_10.out).1;omega))
             obtain ⟨ve340_0,rfl,ge340_0⟩:=hMe340
             have hv340_0:=hcc340 0 _ rfl
             rw [Nat.add_zero,show ((Kd.slice 3 (Kd.int .i64))).sz = 1 from rfl,Nat.mul_one] at hv340_0
             replace hv340_0:=Option.some.inj (hv340_0.symm.trans hx340_0)
             rw [hv340_0] at ge340_0
             have HL340_0:=Aside0.mk (show Kd.R (Kd.int .i64) 3 _ _ _ _ (rd_L5 t329 ((rd_T79 t336 x13_1).f1)) from ge340_0)
             clear hv340_0 ge340_0
             clear hcc340 hce340
             have HR340_0:=Aside0.mk hi340_0
             have HC340_0:=Aside0.mk hl340_0
             clear hi340_0 hl340_0
             replace p340:=eq_true p340
             replace q340:=eq_true q340
             have p341 : 0 ≤ (x13_1 : Int):=of_decide_eq_true (by first|(with_reducible assumption)|assumption)
             have q341 : x13_1 < (t336.length : Int):=of_decide_eq_true (by first|(with_reducible assumption)|assumption)
             obtain ⟨ad341,e341,hx341_0,hx341_1,hx341_2,hx341_3,hx341_4⟩:=at_T79 (Kd.R_reads' HO_12.out).2.2 x13_1 p341 q341
             obtain rfl : ad339 = ad341:=(by injection e341)
             replace p341:=eq_true p341
             replace q341:=eq_true q341
             have p342 : 0 ≤ (((rd_T79 t336 x13_1).f2) : Int):=of_decide_eq_true (by first|(with_reducible assumption)|assumption)
             have q342 : ((rd_T79 t336 x13_1).f2) < ((rd_L5 t329 ((rd_T79 t336 x13_1).f1)).length : Int):=of_decide_eq_true (by first|(with_reducible assumption)|assumption)
             obtain ⟨ad342,e342,hx342_0⟩:=Kd.at_int (by repeat (first|(with_reducible exact HR340_0.out)|(with_reducible refine Kd.C_alloc ?_ _)|(with_reducible refine Kd.C_drewN ?_ _)|(with_reducible refine Kd.C_drew ?_)|exact HR340_0.out)) ((rd_T79 t336 x13_1).f2) p342 q342
             cases e342
             replace p342:=eq_true p342
             replace q342:=eq_true q342
             have p343 : 0 ≤ (x13_1 : Int):=of_decide_eq_true (by first|(with_reducible assumption)|assumption)
             have q343 : x13_1 < (t336.length : Int):=of_decide_eq_true (by first|(with_reducible assumption)|assumption)
             obtain ⟨ad343,e343,hx343_0,hx343_1,hx343_2,hx343_3,hx343_4⟩:=at_T79 (Kd.R_reads' HO_12.out).2.2 x13_1 p343 q343
             obtain rfl : ad339 = ad343:=(by injection e343)
             replace p343:=eq_true p343
             replace q343:=eq_true q343
             go_wp2
             repeat (go_quiet (fail);try go_wp2)
             go_ret2
             exact ⟨by first|rfl|(simp [errW_none,errW_some] <;> rfl)|(simp [*,errW_none,errW_some] <;> rfl),by repeat (first|(with_reducible first|exact HB.out|apply below_alloc|apply pw_below_drewN|apply below_drew1|refine below_set ?_ GE326.out)|exact HB.out)⟩
            ·rw [if_neg c27] at H
             have c27b0 : decide (((rd_T79 t336 x13_1).f3) < (rd (rd_L5 t329 ((rd_T79 t336 x13_1).f1)) ((rd_T79 t336 x13_1).f2))) = false:=decide_eq_false c27
             clear c27
             have H':=Aside0.mk H
             clear H
             obtain ⟨Ao30,co30,eo30⟩:=Kd.R_slice HO_12.out
             subst eo30
             have p339 : 0 ≤ (x13_1 : Int):=of_decide_eq_true (by first|(with_reducible assumption)|assumption)
             have q339 : x13_1 < (t336.length : Int):=of_decide_eq_true (by first|(with_reducible assumption)|assumption)
             obtain ⟨ad339,e339,hx339_0,hx339_1,hx339_2,hx339_3,hx339_4⟩:=at_T79 (Kd.R_reads' HO_12.out).2.2 x13_1 p339 q339
             cases e339
             replace p339:=eq_true p339
             replace q339:=eq_true q339
             obtain ⟨Ao31,co31,eo31⟩:=Kd.S_slice HO_10.out
             subst eo31
             have p340 : 0 ≤ (((rd_T79 t336 x13_1).f1) : Int):=of_decide_eq_true (by first|(with_reducible assumption)|assumption)
             have q340 : ((rd_T79 t336 x13_1).f1) < (t329.length : Int):=of_decide_eq_true (by first|(with_reducible assumption)|assumption)
             obtain ⟨ad340,A340_0,c340_0,e340,hx340_0,hl340_0,hi340_0⟩:=at_L5 (Kd.S_reads' HO_10.out).2.2 ((rd_T79 t336 x13_1).f1) p340 q340
             cases e340
             obtain ⟨ce340,hce340,hMe340,hcc340⟩:=Kd.S_get HO_10.out [] ((rd_T79 t336 x13_1).f1) p340 (by first|exact q340|exact of_decide_eq_true (by first|(with_reducible assumption)|assumption)|(have e_:=(Kd.S_reads' HO_10.out).1;omega))
             obtain ⟨ve340_0,rfl,ge340_0⟩:=hMe340
             have hv340_0:=hcc340 0 _ rfl
             rw [Nat.add_zero,show ((Kd.slice 3 (Kd.int .i64))).sz = 1 from rfl,Nat.mul_one] at hv340_0
             replace hv340_0:=Option.some.inj (hv340_0.symm.trans hx340_0)
             rw [hv340_0] at ge340_0
             have HL340_0:=Aside0.mk (show Kd.R (Kd.int .i64) 3 _ _ _ _ (rd_L5 t329 ((rd_T79 t336 x13_1).f1)) from ge340_0)
             clear hv340_0 ge340_0
             clear hcc340 hce340
             have HR340_0:=Aside0.mk hi340_0
             have HC340_0:=Aside0.mk hl340_0
             clear hi340_0 hl340_0
             replace p340:=eq_true p340
             replace q340:=eq_true q340
             have p341 : 0 ≤ (x13_1 : Int):=of_decide_eq_true (by first|(with_reducible assumption)|assumption)
             have q341 : x13_1 < (t336.length : Int):=of_decide_eq_true (by first|(with_reducible assumption)|assumption)
             obtain ⟨ad341,e341,hx341_0,hx341_1,hx341_2,hx341_3,hx341_4⟩:=at_T79 (Kd.R_reads' HO_12.out).2.2 x13_1 p341 q341
             obtain rfl : ad339 = ad341:=(by injection e341)
             replace p341:=eq_true p341
             replace q341:=eq_true q341
             have p342 : 0 ≤ (((rd_T79 t336 x13_1).f2) : Int):=of_decide_eq_true (by first|(with_reducible assumption)|assumption)
             have q342 : ((rd_T79 t336 x13_1).f2) < ((rd_L5 t329 ((rd_T79 t336 x13_1).f1)).length : Int):=of_decide_eq_true (by first|(with_reducible assumption)|assumption)
             obtain ⟨ad342,e342,hx342_0⟩:=Kd.at_int (by repeat (first|(with_reducible exact HR340_0.out)|(with_reducible refine Kd.C_alloc ?_ _)|(with_reducible refine Kd.C_drewN ?_ _)|(with_reducible refine Kd.C_drew ?_)|exact HR340_0.out)) ((rd_T79 t336 x13_1).f2) p342 q342
             cases e342
             replace p342:=eq_true p342
             replace q342:=eq_true q342
             have p343 : 0 ≤ (x13_1 : Int):=of_decide_eq_true (by first|(with_reducible assumption)|assumption)
             have q343 : x13_1 < (t336.length : Int):=of_decide_eq_true (by first|(with_reducible assumption)|assumption)
             obtain ⟨ad343,e343,hx343_0,hx343_1,hx343_2,hx343_3,hx343_4⟩:=at_T79 (Kd.R_reads' HO_12.out).2.2 x13_1 p343 q343
             obtain rfl : ad339 = ad343:=(by injection e343)
             replace p343:=eq_true p343
             replace q343:=eq_true q343
             go_wp2
             repeat (go_quiet (fail);try go_wp2)
             go_roundg k1
             case measure=>have:=HK1.out;omega
             case rel=>exact ⟨(wrap64 (x13_1 + 1)),(by first|rfl|(simp;done)|(simp [*];done)),H',⟨by have:=HK1.out;omega⟩,⟨by (with_reducible repeat (first|apply Kd.S_alloc|apply Kd.S_drewN|apply Kd.S_drew));exact HO_10.out⟩,⟨by (with_reducible repeat (first|apply Kd.R_alloc|apply Kd.R_drewN|apply Kd.R_drew));exact HO_12.out⟩,⟨by (with_reducible repeat (first|refine blk_drewN ?_ _|refine blk_drew ?_|refine blk_alloc ?_ _));exact BK326.out⟩,⟨by repeat (first|(with_reducible first|exact HB.out|apply below_alloc|apply pw_below_drewN|apply below_drew1|refine below_set ?_ GE326.out)|exact HB.out)⟩⟩
           ·rw [if_neg c26] at H
            exact absurd H (by simp)
          ·rw [if_neg c25] at H
           exact absurd H (by simp)
         ·rw [if_neg c24] at H
          exact absurd H (by simp)
        ·rw [if_neg c23] at H
         exact absurd H (by simp)
       ·rw [if_neg c22] at H
        exact absurd H (by simp)
      ·rw [if_neg c21] at H
       have c21b0 : decide (x13_1 < (t336.length : Int)) = false:=decide_eq_false c21
       clear c21
       simp only [Option.some.injEq,Prod.mk.injEq] at H
       obtain ⟨rfl,rfl⟩:=H
       obtain ⟨Ao32,co32,eo32⟩:=Kd.R_slice HO_12.out
       subst eo32
       go_wp2
       go_ret2
       exact ⟨by first|rfl|(simp [errW_none,errW_some] <;> rfl)|(simp [*,errW_none,errW_some] <;> rfl),by repeat (first|(with_reducible first|exact HB.out|apply below_alloc|apply pw_below_drewN|apply below_drew1|refine below_set ?_ GE326.out)|exact HB.out)⟩
   ·replace c9:=Bool.eq_false_iff.mpr c9
    subst c9
    have H1 : (some (true,0)) = some (r1,r2):=by rw [if_neg (show ¬ (false = true) by decide)] at H;exact H
    clear H
    have H:=H1
    clear H1
    simp only [Option.some.injEq,Prod.mk.injEq] at H
    obtain ⟨rfl,rfl⟩:=H
    go_enter Try.func15,Try.ntmps15
    go_wp2_with (first|((with_reducible refine gate_dst (N:=5) rfl ?_);refine box_event ?hg (N:=5) ?hd (cs:=#[.int .i64 a2_0,.int .i64 a2_1,.int .i64 a2_2,.int .i64 a2_3,.int .i64 a2_4]) (t:=26) ?hr ?_;(case hd=>rfl);(case hg=>rfl);(case hr=>first|(go_simp;done)|(go_simp;rfl));intro gb326 hg w33 hbox hb;have n0_:=Aside0.mk (below_step (by repeat (first|(with_reducible first|exact HB.out|apply below_alloc|apply pw_below_drewN|apply below_drew1)|exact HB.out)) hb);have n1_:=Aside0.mk (hbox);have n2_:=Aside0.mk ((by rw [hg];exact (below_size (by repeat (first|(with_reducible first|exact HB.out|apply below_alloc|apply pw_below_drewN|apply below_drew1)|exact HB.out))) : w.heap.size ≤ gb326));have n3_:=Aside0.mk ((by rw [hg];exact (below_size (by repeat (first|(with_reducible first|exact HB.out|apply below_alloc|apply pw_below_drewN|apply below_drew1)|exact HB.out))) : w.heap.size ≤ gb326));clear HB;have HB:=n0_;have BK326:=n1_;have GW326:=n2_;have GE326:=n3_;clear n0_ n1_ n2_ n3_;clear hb hbox hg)|(go_at_call 31;(with_reducible refine (scarfjointref03_Valid.calls k a0 _ _ l1 t327 _ ?side1 ?side2 A4.out).mono ?_);(case side1=>repeat (first|exact (Kd.C_below HR1.out HB.out)|(with_reducible refine Kd.C_alloc ?_ _)|(with_reducible refine Kd.C_drewN ?_ _)|(with_reducible refine Kd.C_drew ?_)));(case side2=>exact HC1.out);rintro e w34 ⟨rfl,hb⟩;have n0_:=Aside0.mk (blk_below (g:=gb326) (o:=.cells #[.int .i64 a2_0,.int .i64 a2_1,.int .i64 a2_2,.int .i64 a2_3,.int .i64 a2_4] 26 (0,0)) (by (with_reducible repeat (first|refine blk_drewN ?_ _|refine blk_drew ?_|refine blk_alloc ?_ _));exact BK326.out) hb);have n1_:=Aside0.mk (below_step (by repeat (first|(with_reducible first|exact HB.out|apply below_alloc|apply pw_below_drewN|apply below_drew1|refine below_set ?_ GE326.out)|exact HB.out)) hb);clear BK326;clear HB;have BK326:=n0_;have HB:=n1_;clear n0_ n1_;(try clear hb);(try clear hb2);(try clear hk);(try clear hi);have hcz35_0 : w34.cell? ⟨gb326,0,none⟩ = some (.int .i64 a2_0):=(blk_cell BK326.out 0).trans rfl;have hcz35_1 : w34.cell? ⟨gb326,1,none⟩ = some (.int .i64 a2_1):=(blk_cell BK326.out 1).trans rfl;have hcz35_2 : w34.cell? ⟨gb326,2,none⟩ = some (.int .i64 a2_2):=(blk_cell BK326.out 2).trans rfl;have hcz35_3 : w34.cell? ⟨gb326,3,none⟩ = some (.int .i64 a2_3):=(blk_cell BK326.out 3).trans rfl;have hcz35_4 : w34.cell? ⟨gb326,4,none⟩ = some (.int .i64 a2_4):=(blk_cell BK326.out 4).trans rfl;have hfz35_0:=blk_frozen BK326.out 0;have hfz35_1:=blk_frozen BK326.out 1;have hfz35_2:=blk_frozen BK326.out 2;have hfz35_3:=blk_frozen BK326.out 3;have hfz35_4:=blk_frozen BK326.out 4)|(go_at_call 43;(with_reducible refine (scarfjointref03_One.calls k a0 a2_0 a2_1 a2_2 a2_3 a2_4 t328 _ A6.out).mono ?_);rintro e w36 ⟨rfl,hb⟩;have n0_:=Aside0.mk (blk_below (g:=gb326) (o:=.cells #[.int .i64 a2_0,.int .i64 a2_1,.int .i64 a2_2,.int .i64 a2_3,.int .i64 a2_4] 26 (0,0)) (by (with_reducible repeat (first|refine blk_drewN ?_ _|refine blk_drew ?_|refine blk_alloc ?_ _));exact BK326.out) hb);have n1_:=Aside0.mk (below_step (by repeat (first|(with_reducible first|exact HB.out|apply below_alloc|apply pw_below_drewN|apply below_drew1|refine below_set ?_ GE326.out)|exact HB.out)) hb);clear BK326;clear HB;have BK326:=n0_;have HB:=n1_;clear n0_ n1_;(try clear hb);(try clear hb2);(try clear hk);(try clear hi))|(go_at_call 44;(with_reducible refine (scarfjointref03_distances.calls k a0 _ _ l1 t329 false _ ?side1 ?side2 A8.out).mono ?_);(case side1=>repeat (first|exact (Kd.C_below HR1.out HB.out)|(with_reducible refine Kd.C_alloc ?_ _)|(with_reducible refine Kd.C_drewN ?_ _)|(with_reducible refine Kd.C_drew ?_)));(case side2=>exact HC1.out);rintro e w37 ⟨v331,rfl,ho0,hb⟩;have n0_:=Aside0.mk (Kd.S_lower ho0 (below_size (by repeat (first|(with_reducible first|exact HB.out|apply below_alloc|apply pw_below_drewN|apply below_drew1|refine below_set ?_ GE326.out)|exact HB.out))));have n1_:=Aside0.mk (blk_below (g:=gb326) (o:=.cells #[.int .i64 a2_0,.int .i64 a2_1,.int .i64 a2_2,.int .i64 a2_3,.int .i64 a2_4] 26 (0,0)) (by (with_reducible repeat (first|refine blk_drewN ?_ _|refine blk_drew ?_|refine blk_alloc ?_ _));exact BK326.out) hb);have n2_:=Aside0.mk (below_step (by repeat (first|(with_reducible first|exact HB.out|apply below_alloc|apply pw_below_drewN|apply below_drew1|refine below_set ?_ GE326.out)|exact HB.out)) hb);clear BK326;clear HB;have HO332:=n0_;have BK326:=n1_;have HB:=n2_;clear n0_ n1_ n2_;(try clear hb);(try clear hb2);(try clear hk);(try clear hi);(try clear ho0)))
    go_ret2
    exact ⟨by first|rfl|(simp [errW_none,errW_some] <;> rfl)|(simp [*,errW_none,errW_some] <;> rfl),by repeat (first|(with_reducible first|exact HB.out|apply below_alloc|apply pw_below_drewN|apply below_drew1|refine below_set ?_ GE326.out)|exact HB.out)⟩
  ·rw [if_neg c7] at H
   have c7b0 : (t328 == 0) = false:=beq_eq_false_iff_ne.mpr c7
   have c7b1 : (t328 != 0) = true:=bne_iff_ne.mpr c7
   simp only [Option.some.injEq,Prod.mk.injEq] at H
   obtain ⟨rfl,rfl⟩:=H
   go_enter Try.func15,Try.ntmps15
   go_wp2_with (first|((with_reducible refine gate_dst (N:=5) rfl ?_);refine box_event ?hg (N:=5) ?hd (cs:=#[.int .i64 a2_0,.int .i64 a2_1,.int .i64 a2_2,.int .i64 a2_3,.int .i64 a2_4]) (t:=26) ?hr ?_;(case hd=>rfl);(case hg=>rfl);(case hr=>first|(go_simp;done)|(go_simp;rfl));intro gb326 hg w38 hbox hb;have n0_:=Aside0.mk (below_step (by repeat (first|(with_reducible first|exact HB.out|apply below_alloc|apply pw_below_drewN|apply below_drew1)|exact HB.out)) hb);have n1_:=Aside0.mk (hbox);have n2_:=Aside0.mk ((by rw [hg];exact (below_size (by repeat (first|(with_reducible first|exact HB.out|apply below_alloc|apply pw_below_drewN|apply below_drew1)|exact HB.out))) : w.heap.size ≤ gb326));have n3_:=Aside0.mk ((by rw [hg];exact (below_size (by repeat (first|(with_reducible first|exact HB.out|apply below_alloc|apply pw_below_drewN|apply below_drew1)|exact HB.out))) : w.heap.size ≤ gb326));clear HB;have HB:=n0_;have BK326:=n1_;have GW326:=n2_;have GE326:=n3_;clear n0_ n1_ n2_ n3_;clear hb hbox hg)|(go_at_call 31;(with_reducible refine (scarfjointref03_Valid.calls k a0 _ _ l1 t327 _ ?side1 ?side2 A4.out).mono ?_);(case side1=>repeat (first|exact (Kd.C_below HR1.out HB.out)|(with_reducible refine Kd.C_alloc ?_ _)|(with_reducible refine Kd.C_drewN ?_ _)|(with_reducible refine Kd.C_drew ?_)));(case side2=>exact HC1.out);rintro e w39 ⟨rfl,hb⟩;have n0_:=Aside0.mk (blk_below (g:=gb326) (o:=.cells #[.int .i64 a2_0,.int .i64 a2_1,.int .i64 a2_2,.int .i64 a2_3,.int .i64 a2_4] 26 (0,0)) (by (with_reducible repeat (first|refine blk_drewN ?_ _|refine blk_drew ?_|refine blk_alloc ?_ _));exact BK326.out) hb);have n1_:=Aside0.mk (below_step (by repeat (first|(with_reducible first|exact HB.out|apply below_alloc|apply pw_below_drewN|apply below_drew1|refine below_set ?_ GE326.out)|exact HB.out)) hb);clear BK326;clear HB;have BK326:=n0_;have HB:=n1_;clear n0_ n1_;(try clear hb);(try clear hb2);(try clear hk);(try clear hi);have hcz40_0 : w39.cell? ⟨gb326,0,none⟩ = some (.int .i64 a2_0):=(blk_cell BK326.out 0).trans rfl;have hcz40_1 : w39.cell? ⟨gb326,1,none⟩ = some (.int .i64 a2_1):=(blk_cell BK326.out 1).trans rfl;have hcz40_2 : w39.cell? ⟨gb326,2,none⟩ = some (.int .i64 a2_2):=(blk_cell BK326.out 2).trans rfl;have hcz40_3 : w39.cell? ⟨gb326,3,none⟩ = some (.int .i64 a2_3):=(blk_cell BK326.out 3).trans rfl;have hcz40_4 : w39.cell? ⟨gb326,4,none⟩ = some (.int .i64 a2_4):=(blk_cell BK326.out 4).trans rfl;have hfz40_0:=blk_frozen BK326.out 0;have hfz40_1:=blk_frozen BK326.out 1;have hfz40_2:=blk_frozen BK326.out 2;have hfz40_3:=blk_frozen BK326.out 3;have hfz40_4:=blk_frozen BK326.out 4)|(go_at_call 43;(with_reducible refine (scarfjointref03_One.calls k a0 a2_0 a2_1 a2_2 a2_3 a2_4 t328 _ A6.out).mono ?_);rintro e w41 ⟨rfl,hb⟩;have n0_:=Aside0.mk (blk_below (g:=gb326) (o:=.cells #[.int .i64 a2_0,.int .i64 a2_1,.int .i64 a2_2,.int .i64 a2_3,.int .i64 a2_4] 26 (0,0)) (by (with_reducible repeat (first|refine blk_drewN ?_ _|refine blk_drew ?_|refine blk_alloc ?_ _));exact BK326.out) hb);have n1_:=Aside0.mk (below_step (by repeat (first|(with_reducible first|exact HB.out|apply below_alloc|apply pw_below_drewN|apply below_drew1|refine below_set ?_ GE326.out)|exact HB.out)) hb);clear BK326;clear HB;have BK326:=n0_;have HB:=n1_;clear n0_ n1_;(try clear hb);(try clear hb2);(try clear hk);(try clear hi)))
   go_ret2
   exact ⟨by first|rfl|(simp [errW_none,errW_some] <;> rfl)|(simp [*,errW_none,errW_some] <;> rfl),by repeat (first|(with_reducible first|exact HB.out|apply below_alloc|apply pw_below_drewN|apply below_drew1|refine below_set ?_ GE326.out)|exact HB.out)⟩
 ·rw [if_neg c5] at H
  have c5b0 : (t327 == 0) = false:=beq_eq_false_iff_ne.mpr c5
  have c5b1 : (t327 != 0) = true:=bne_iff_ne.mpr c5
  simp only [Option.some.injEq,Prod.mk.injEq] at H
  obtain ⟨rfl,rfl⟩:=H
  go_enter Try.func15,Try.ntmps15
  go_wp2_with (first|((with_reducible refine gate_dst (N:=5) rfl ?_);refine box_event ?hg (N:=5) ?hd (cs:=#[.int .i64 a2_0,.int .i64 a2_1,.int .i64 a2_2,.int .i64 a2_3,.int .i64 a2_4]) (t:=26) ?hr ?_;(case hd=>rfl);(case hg=>rfl);(case hr=>first|(go_simp;done)|(go_simp;rfl));intro gb326 hg w42 hbox hb;have n0_:=Aside0.mk (below_step (by repeat (first|(with_reducible first|exact HB.out|apply below_alloc|apply pw_below_drewN|apply below_drew1)|exact HB.out)) hb);have n1_:=Aside0.mk (hbox);have n2_:=Aside0.mk ((by rw [hg];exact (below_size (by repeat (first|(with_reducible first|exact HB.out|apply below_alloc|apply pw_below_drewN|apply below_drew1)|exact HB.out))) : w.heap.size ≤ gb326));have n3_:=Aside0.mk ((by rw [hg];exact (below_size (by repeat (first|(with_reducible first|exact HB.out|apply below_alloc|apply pw_below_drewN|apply below_drew1)|exact HB.out))) : w.heap.size ≤ gb326));clear HB;have HB:=n0_;have BK326:=n1_;have GW326:=n2_;have GE326:=n3_;clear n0_ n1_ n2_ n3_;clear hb hbox hg)|(go_at_call 31;(with_reducible refine (scarfjointref03_Valid.calls k a0 _ _ l1 t327 _ ?side1 ?side2 A4.out).mono ?_);(case side1=>repeat (first|exact (Kd.C_below HR1.out HB.out)|(with_reducible refine Kd.C_alloc ?_ _)|(with_reducible refine Kd.C_drewN ?_ _)|(with_reducible refine Kd.C_drew ?_)));(case side2=>exact HC1.out);rintro e w43 ⟨rfl,hb⟩;have n0_:=Aside0.mk (blk_below (g:=gb326) (o:=.cells #[.int .i64 a2_0,.int .i64 a2_1,.int .i64 a2_2,.int .i64 a2_3,.int .i64 a2_4] 26 (0,0)) (by (with_reducible repeat (first|refine blk_drewN ?_ _|refine blk_drew ?_|refine blk_alloc ?_ _));exact BK326.out) hb);have n1_:=Aside0.mk (below_step (by repeat (first|(with_reducible first|exact HB.out|apply below_alloc|apply pw_below_drewN|apply below_drew1|refine below_set ?_ GE326.out)|exact HB.out)) hb);clear BK326;clear HB;have BK326:=n0_;have HB:=n1_;clear n0_ n1_;(try clear hb);(try clear hb2);(try clear hk);(try clear hi)))
  go_ret2
  exact ⟨by first|rfl|(simp [errW_none,errW_some] <;> rfl)|(simp [*,errW_none,errW_some] <;> rfl),by repeat (first|(with_reducible first|exact HB.out|apply below_alloc|apply pw_below_drewN|apply below_drew1|refine below_set ?_ GE326.out)|exact HB.out)⟩

end Go.Proofs.Yteebkkdbkkibmaa.Pr
