/- Functions of this claim and what their calls compute, written by wip/tools/mp.py, a variant of the kit printer. Conditions: each theorem has its own. -/
import Derived.Test.YteebkkdbkkibmaaPr0
namespace Go.Proofs.Yteebkkdbkkibmaa.Pr
open Go.RowKit Go.Proofs.YteebkkdbkkibmaaW.PrintWords Go.Proofs.YteebkkdbkkibmaaW.PrintLast Go.Proofs.YteebkkdbkkibmaaW.PrintMore
attribute [local go_sem] max2_int min2_int max_two min_two max_three min_three max_four min_four   -- for this text's walks alone
set_option linter.unusedVariables false
set_option linter.unusedSimpArgs false

/-! ### api_Test_14: function 14 -/
def api_Test_14.f (l0 : List (S26)) : Option ((List (S26))):=(some (([] : List (S26)) : List (S26))).bind fun y279=>(if y279.length + l0.length < 3518437208883 then (some (y279 ++ l0)) else (none))
set_option maxHeartbeats 8000000 in
set_option maxRecDepth 100000 in
theorem api_Test_14.calls (A0 : Option Addr) (c0 : Nat) (l0 : List (S26)) (r : List (S26)) (w : World) (hr0 : Kd.C k26 w A0 l0.length l0) (hc0 : l0.length ≤ c0) (h : api_Test_14.f l0 = some r) :
  Calls Try.prog 14 #[.slice A0 l0.length c0] w fun e w'=>∃ v0_ : Value,e = .returned (v0_) ∧ Kd.R k26 26 w' w.heap.size (fun _=>True) v0_ r ∧ Below w.heap.size w w':=by
 have HR0:=Aside0.mk hr0
 have HC0:=Aside0.mk hc0
 clear hr0 hc0
 have HB:=Aside0.mk (Below.refl w.heap.size w)
 have H : ((some (([] : List (S26)) : List (S26))).bind fun y279=>(if y279.length + l0.length < 3518437208883 then (some (y279 ++ l0)) else (none))) = some r:=h
 clear h
 rcases A0 with _|ad0
 ·obtain rfl : l0 = []:=by
   rcases Nat.eq_zero_or_pos l0.length with h0|h0
   ·exact List.eq_nil_of_length_eq_zero h0
   ·obtain ⟨_,e,_⟩:=HR0.out.2.2 h0;cases e
  have hr : r = []:=by simpa using H.symm
  clear H
  subst hr
  have hnil:=fun (W : World) (n c : Nat)=>Lib.run_eql_slice_nil (P:=Try.prog) W 22 26 none n c 0 0 Try.underlying22
  simp only [Option.isNone_none] at hnil
  go_enter Try.func14,Try.ntmps14
  go_wp2
  go_ret
  exact ⟨_,rfl,Kd.R_nil _ _ _ _ _,HB.out⟩
 have hnil:=fun (W : World) (n c : Nat)=>Lib.run_eql_slice_nil (P:=Try.prog) W 22 26 (some ad0) n c 0 0 Try.underlying22
 simp only [Option.isNone_some] at hnil
 obtain ⟨y279,hy279⟩ : ∃ y_ : List (S26),y_ = (([] : List (S26))):=⟨_,rfl⟩
 replace H : (if y279.length + l0.length < 3518437208883 then (some (y279 ++ l0)) else (none)) = some r:=by first|(rw [hy279];with_reducible exact H)|(have H2_:=(Option.bind_some _ _).symm.trans H;rw [hy279];with_reducible exact H2_)|(have H2_:=(Option.bind_some _ _).symm.trans H;with_reducible exact H2_)|with_reducible exact H|(rw [hy279];exact H)|exact H
 have Ny279:=Aside0.mk hy279
 clear hy279
 by_cases c2 : y279.length + l0.length < 3518437208883
 ·rw [if_pos c2] at H
  have LMc2:=Aside0.mk c2
  clear c2
  obtain ⟨y282,hy282⟩ : ∃ y_ : List (S26),y_ = (y279 ++ l0):=⟨_,rfl⟩
  replace H : (some y282) = some r:=by first|(rw [hy282];with_reducible exact H)|(have H2_:=(Option.bind_some _ _).symm.trans H;rw [hy282];with_reducible exact H2_)|(have H2_:=(Option.bind_some _ _).symm.trans H;with_reducible exact H2_)|with_reducible exact H|(rw [hy282];exact H)|exact H
  have Ny282:=Aside0.mk hy282
  clear hy282
  obtain rfl:=Option.some.inj H
  go_enter Try.func14,Try.ntmps14
  go_wp2_with (first|((with_reducible refine gate_dst (N:=5) rfl ?_);refine Kd.R_lit k26 _ 26 ?hg (N:=5) ?hd (xs:=([] : List (S26))) (inner:=[]) (ok:=fun _=>True) (okp:=fun _=>True) ?hr ?hp (fun _ hk=>hk) trivial (Below.refl _ _) (Nat.le_refl _) (by simp) ?_;(case hd=>rfl);(case hg=>rfl);(case hr=>first|(go_simp;done)|(go_simp;rfl));(case hp=>exact (Reps.none _ _));intro v280 w3 ho4 hb hg_ hnew_;clear hg_ hnew_;(first|rw [← Ny279.out] at ho4|(simp only [Int.reduceToNat] at ho4;rw [← Ny279.out] at ho4));have n0_:=Aside0.mk (Kd.R_lower ho4 (below_size (by repeat (first|(with_reducible first|exact HB.out|apply below_alloc|apply pw_below_drewN|apply below_drew1)|exact HB.out))));have n1_:=Aside0.mk (below_step (by repeat (first|(with_reducible first|exact HB.out|apply below_alloc|apply pw_below_drewN|apply below_drew1)|exact HB.out)) hb);clear HB;have HO281:=n0_;have HB:=n1_;clear n0_ n1_;clear hb ho4)|((with_reducible refine gate_builtin (b:=.append) (xs:=#[.tmp 5,.tmp 6]) rfl ?_);at_builtin;refine Kd.R_append_rows k26 (w0:=w) w.heap.size rfl (.tmp 5) (.tmp 6) 22 26 (.agg #[(.int .i64 0),(.int .i64 0),(.int .i64 0),(.int .i64 0),(.int .i64 0)]) 40 rfl Try.underlying22 info26 rfl (by decide) (by omega) v280 y279 l0 _ _ _ (fun _=>True) (fun _=>False) rfl rfl ?aO ?aR (fun _ _ h=>h) (fun _ h=>h.elim) ?aF ?aB ?aS ?aL ?_;(case aR=>repeat (first|exact (Kd.C_below HR0.out HB.out)|(with_reducible refine Kd.C_alloc ?_ _)|(with_reducible refine Kd.C_drewN ?_ _)|(with_reducible refine Kd.C_drew ?_)));(case aB=>exact (by repeat (first|(with_reducible first|exact HB.out|apply below_alloc|apply pw_below_drewN|apply below_drew1)|exact HB.out)));(case aF=>exact (fun _ _=>trivial));(case aO=>exact (by (with_reducible repeat (first|apply Kd.R_alloc|apply Kd.R_drewN|apply Kd.R_drew));exact HO281.out));(case aS=>exact (below_size (by repeat (first|(with_reducible first|exact HB.out|apply below_alloc|apply pw_below_drewN|apply below_drew1)|exact HB.out))));(case aL=>have:=LMc2.out;omega);intro v283 w5 ho hb hg hat;rw [← Ny282.out] at ho;have n0_:=Aside0.mk (hb);have n1_:=Aside0.mk (ho);clear HB;clear HO281;have HB:=n0_;have HO284:=n1_;clear n0_ n1_;clear ho hb hg hat))
  go_ret
  exact ⟨_,by first|rfl|(simp [errW_none,errW_some] <;> rfl)|(simp [*,errW_none,errW_some] <;> rfl),by (with_reducible repeat (first|apply Kd.R_alloc|apply Kd.R_drewN|apply Kd.R_drew));exact HO284.out,by repeat (first|(with_reducible first|exact HB.out|apply below_alloc|apply pw_below_drewN|apply below_drew1)|exact HB.out)⟩
 ·rw [if_neg c2] at H
  exact absurd H (by simp)

/-! ### scarfjointref03_within: function 65 -/
def scarfjointref03_within.f (a0 : Int) (a1_0 : Int) (a1_1 : Int) : Option (Int):=if a1_0 < (-1) then (some 6) else (if a1_0 ≥ a0 then (some 6) else (if a1_1 < (-1000000) then (some 6) else (if a1_1 > 1000000 then (some 6) else (some 0))))
set_option maxHeartbeats 8000000 in
set_option maxRecDepth 100000 in
theorem scarfjointref03_within.calls (a0 : Int) (a1_0 : Int) (a1_1 : Int) (r : Int) (w : World) (h : scarfjointref03_within.f a0 a1_0 a1_1 = some r) :
  Calls Try.prog 65 #[.int .i64 a0,.agg #[.int .i64 a1_0,.int .i64 a1_1]] w fun e w'=>e = .returned (.int .i64 r) ∧ Below w.heap.size w w':=by
 have hu24:=Try.underlying24
 have HB:=Aside0.mk (Below.refl w.heap.size w)
 have H : (if a1_0 < (-1) then (some 6) else (if a1_0 ≥ a0 then (some 6) else (if a1_1 < (-1000000) then (some 6) else (if a1_1 > 1000000 then (some 6) else (some 0))))) = some r:=h
 clear h
 by_cases c3 : a1_0 < (-1)
 ·rw [if_pos c3] at H
  have c3b0 : decide (a1_0 < (-1)) = true:=decide_eq_true c3
  clear c3
  obtain rfl:=Option.some.inj H
  go_enter Try.func65,Try.ntmps65
  go_wp2_with (first|((with_reducible refine gate_dst (N:=3) rfl ?_);refine box_event ?hg (N:=3) ?hd (cs:=#[.int .i64 a1_0,.int .i64 a1_1]) (t:=24) ?hr ?_;(case hd=>rfl);(case hg=>rfl);(case hr=>first|(go_simp;done)|(go_simp;rfl));intro gb285 hg w4 hbox hb;have n0_:=Aside0.mk (below_step (by repeat (first|(with_reducible first|exact HB.out|apply below_alloc|apply pw_below_drewN|apply below_drew1)|exact HB.out)) hb);have n1_:=Aside0.mk (hbox);have n2_:=Aside0.mk ((by rw [hg];exact (below_size (by repeat (first|(with_reducible first|exact HB.out|apply below_alloc|apply pw_below_drewN|apply below_drew1)|exact HB.out))) : w.heap.size ≤ gb285));have n3_:=Aside0.mk ((by rw [hg];exact (below_size (by repeat (first|(with_reducible first|exact HB.out|apply below_alloc|apply pw_below_drewN|apply below_drew1)|exact HB.out))) : w.heap.size ≤ gb285));clear HB;have HB:=n0_;have BK285:=n1_;have GW285:=n2_;have GE285:=n3_;clear n0_ n1_ n2_ n3_;clear hb hbox hg;have hcz5_0 : w4.cell? ⟨gb285,0,none⟩ = some (.int .i64 a1_0):=(blk_cell BK285.out 0).trans rfl;have hcz5_1 : w4.cell? ⟨gb285,1,none⟩ = some (.int .i64 a1_1):=(blk_cell BK285.out 1).trans rfl;have hfz5_0:=blk_frozen BK285.out 0;have hfz5_1:=blk_frozen BK285.out 1))
  go_ret
  exact ⟨by first|rfl|(simp [errW_none,errW_some] <;> rfl)|(simp [*,errW_none,errW_some] <;> rfl),by repeat (first|(with_reducible first|exact HB.out|apply below_alloc|apply pw_below_drewN|apply below_drew1|refine below_set ?_ GE285.out)|exact HB.out)⟩
 ·rw [if_neg c3] at H
  have c3b0 : decide (a1_0 < (-1)) = false:=decide_eq_false c3
  clear c3
  by_cases c6 : a1_0 ≥ a0
  ·rw [if_pos c6] at H
   have c6b0 : decide (a0 ≤ a1_0) = true:=decide_eq_true c6
   clear c6
   obtain rfl:=Option.some.inj H
   go_enter Try.func65,Try.ntmps65
   go_wp2_with (first|((with_reducible refine gate_dst (N:=3) rfl ?_);refine box_event ?hg (N:=3) ?hd (cs:=#[.int .i64 a1_0,.int .i64 a1_1]) (t:=24) ?hr ?_;(case hd=>rfl);(case hg=>rfl);(case hr=>first|(go_simp;done)|(go_simp;rfl));intro gb285 hg w7 hbox hb;have n0_:=Aside0.mk (below_step (by repeat (first|(with_reducible first|exact HB.out|apply below_alloc|apply pw_below_drewN|apply below_drew1)|exact HB.out)) hb);have n1_:=Aside0.mk (hbox);have n2_:=Aside0.mk ((by rw [hg];exact (below_size (by repeat (first|(with_reducible first|exact HB.out|apply below_alloc|apply pw_below_drewN|apply below_drew1)|exact HB.out))) : w.heap.size ≤ gb285));have n3_:=Aside0.mk ((by rw [hg];exact (below_size (by repeat (first|(with_reducible first|exact HB.out|apply below_alloc|apply pw_below_drewN|apply below_drew1)|exact HB.out))) : w.heap.size ≤ gb285));clear HB;have HB:=n0_;have BK285:=n1_;have GW285:=n2_;have GE285:=n3_;clear n0_ n1_ n2_ n3_;clear hb hbox hg;have hcz8_0 : w7.cell? ⟨gb285,0,none⟩ = some (.int .i64 a1_0):=(blk_cell BK285.out 0).trans rfl;have hcz8_1 : w7.cell? ⟨gb285,1,none⟩ = some (.int .i64 a1_1):=(blk_cell BK285.out 1).trans rfl;have hfz8_0:=blk_frozen BK285.out 0;have hfz8_1:=blk_frozen BK285.out 1))
   go_ret
   exact ⟨by first|rfl|(simp [errW_none,errW_some] <;> rfl)|(simp [*,errW_none,errW_some] <;> rfl),by repeat (first|(with_reducible first|exact HB.out|apply below_alloc|apply pw_below_drewN|apply below_drew1|refine below_set ?_ GE285.out)|exact HB.out)⟩
  ·rw [if_neg c6] at H
   have c6b0 : decide (a0 ≤ a1_0) = false:=decide_eq_false c6
   clear c6
   by_cases c9 : a1_1 < (-1000000)
   ·rw [if_pos c9] at H
    have c9b0 : decide (a1_1 < (-1000000)) = true:=decide_eq_true c9
    clear c9
    obtain rfl:=Option.some.inj H
    go_enter Try.func65,Try.ntmps65
    go_wp2_with (first|((with_reducible refine gate_dst (N:=3) rfl ?_);refine box_event ?hg (N:=3) ?hd (cs:=#[.int .i64 a1_0,.int .i64 a1_1]) (t:=24) ?hr ?_;(case hd=>rfl);(case hg=>rfl);(case hr=>first|(go_simp;done)|(go_simp;rfl));intro gb285 hg w10 hbox hb;have n0_:=Aside0.mk (below_step (by repeat (first|(with_reducible first|exact HB.out|apply below_alloc|apply pw_below_drewN|apply below_drew1)|exact HB.out)) hb);have n1_:=Aside0.mk (hbox);have n2_:=Aside0.mk ((by rw [hg];exact (below_size (by repeat (first|(with_reducible first|exact HB.out|apply below_alloc|apply pw_below_drewN|apply below_drew1)|exact HB.out))) : w.heap.size ≤ gb285));have n3_:=Aside0.mk ((by rw [hg];exact (below_size (by repeat (first|(with_reducible first|exact HB.out|apply below_alloc|apply pw_below_drewN|apply below_drew1)|exact HB.out))) : w.heap.size ≤ gb285));clear HB;have HB:=n0_;have BK285:=n1_;have GW285:=n2_;have GE285:=n3_;clear n0_ n1_ n2_ n3_;clear hb hbox hg;have hcz11_0 : w10.cell? ⟨gb285,0,none⟩ = some (.int .i64 a1_0):=(blk_cell BK285.out 0).trans rfl;have hcz11_1 : w10.cell? ⟨gb285,1,none⟩ = some (.int .i64 a1_1):=(blk_cell BK285.out 1).trans rfl;have hfz11_0:=blk_frozen BK285.out 0;have hfz11_1:=blk_frozen BK285.out 1))
    go_ret
    exact ⟨by first|rfl|(simp [errW_none,errW_some] <;> rfl)|(simp [*,errW_none,errW_some] <;> rfl),by repeat (first|(with_reducible first|exact HB.out|apply below_alloc|apply pw_below_drewN|apply below_drew1|refine below_set ?_ GE285.out)|exact HB.out)⟩
   ·rw [if_neg c9] at H
    have c9b0 : decide (a1_1 < (-1000000)) = false:=decide_eq_false c9
    clear c9
    by_cases c12 : a1_1 > 1000000
    ·rw [if_pos c12] at H
     have c12b0 : decide (1000000 < a1_1) = true:=decide_eq_true c12
     clear c12
     obtain rfl:=Option.some.inj H
     go_enter Try.func65,Try.ntmps65
     go_wp2_with (first|((with_reducible refine gate_dst (N:=3) rfl ?_);refine box_event ?hg (N:=3) ?hd (cs:=#[.int .i64 a1_0,.int .i64 a1_1]) (t:=24) ?hr ?_;(case hd=>rfl);(case hg=>rfl);(case hr=>first|(go_simp;done)|(go_simp;rfl));intro gb285 hg w13 hbox hb;have n0_:=Aside0.mk (below_step (by repeat (first|(with_reducible first|exact HB.out|apply below_alloc|apply pw_below_drewN|apply below_drew1)|exact HB.out)) hb);have n1_:=Aside0.mk (hbox);have n2_:=Aside0.mk ((by rw [hg];exact (below_size (by repeat (first|(with_reducible first|exact HB.out|apply below_alloc|apply pw_below_drewN|apply below_drew1)|exact HB.out))) : w.heap.size ≤ gb285));have n3_:=Aside0.mk ((by rw [hg];exact (below_size (by repeat (first|(with_reducible first|exact HB.out|apply below_alloc|apply pw_below_drewN|apply below_drew1)|exact HB.out))) : w.heap.size ≤ gb285));clear HB;have HB:=n0_;have BK285:=n1_;have GW285:=n2_;have GE285:=n3_;clear n0_ n1_ n2_ n3_;clear hb hbox hg;have hcz14_0 : w13.cell? ⟨gb285,0,none⟩ = some (.int .i64 a1_0):=(blk_cell BK285.out 0).trans rfl;have hcz14_1 : w13.cell? ⟨gb285,1,none⟩ = some (.int .i64 a1_1):=(blk_cell BK285.out 1).trans rfl;have hfz14_0:=blk_frozen BK285.out 0;have hfz14_1:=blk_frozen BK285.out 1))
     go_ret
     exact ⟨by first|rfl|(simp [errW_none,errW_some] <;> rfl)|(simp [*,errW_none,errW_some] <;> rfl),by repeat (first|(with_reducible first|exact HB.out|apply below_alloc|apply pw_below_drewN|apply below_drew1|refine below_set ?_ GE285.out)|exact HB.out)⟩
    ·rw [if_neg c12] at H
     have c12b0 : decide (1000000 < a1_1) = false:=decide_eq_false c12
     clear c12
     obtain rfl:=Option.some.inj H
     go_enter Try.func65,Try.ntmps65
     go_wp2_with (first|((with_reducible refine gate_dst (N:=3) rfl ?_);refine box_event ?hg (N:=3) ?hd (cs:=#[.int .i64 a1_0,.int .i64 a1_1]) (t:=24) ?hr ?_;(case hd=>rfl);(case hg=>rfl);(case hr=>first|(go_simp;done)|(go_simp;rfl));intro gb285 hg w15 hbox hb;have n0_:=Aside0.mk (below_step (by repeat (first|(with_reducible first|exact HB.out|apply below_alloc|apply pw_below_drewN|apply below_drew1)|exact HB.out)) hb);have n1_:=Aside0.mk (hbox);have n2_:=Aside0.mk ((by rw [hg];exact (below_size (by repeat (first|(with_reducible first|exact HB.out|apply below_alloc|apply pw_below_drewN|apply below_drew1)|exact HB.out))) : w.heap.size ≤ gb285));have n3_:=Aside0.mk ((by rw [hg];exact (below_size (by repeat (first|(with_reducible first|exact HB.out|apply below_alloc|apply pw_below_drewN|apply below_drew1)|exact HB.out))) : w.heap.size ≤ gb285));clear HB;have HB:=n0_;have BK285:=n1_;have GW285:=n2_;have GE285:=n3_;clear n0_ n1_ n2_ n3_;clear hb hbox hg;have hcz16_0 : w15.cell? ⟨gb285,0,none⟩ = some (.int .i64 a1_0):=(blk_cell BK285.out 0).trans rfl;have hcz16_1 : w15.cell? ⟨gb285,1,none⟩ = some (.int .i64 a1_1):=(blk_cell BK285.out 1).trans rfl;have hfz16_0:=blk_frozen BK285.out 0;have hfz16_1:=blk_frozen BK285.out 1))
     go_ret
     exact ⟨by first|rfl|(simp [errW_none,errW_some] <;> rfl)|(simp [*,errW_none,errW_some] <;> rfl),by repeat (first|(with_reducible first|exact HB.out|apply below_alloc|apply pw_below_drewN|apply below_drew1|refine below_set ?_ GE285.out)|exact HB.out)⟩

/-! ### scarfjointref03_One: function 43 -/
def scarfjointref03_One.j0 : Nat → Int → Bool → Int → Int → Int → Int → Int → Option (Int)
 | 0,_,_,_,_,_,_,_ => none
 | k + 1,x0,x13,x287000,x287001,x287002,x287003,x287004 => if x13 = true then (some 1) else ((scarfjointref03_within.f x0 x287001 x287002).bind fun t287 => (if t287 = 0 then ((scarfjointref03_within.f x0 x287003 x287004).bind fun t288 => (some t288)) else (some t287)))
def scarfjointref03_One.f (k : Nat) (a0 : Int) (a1_0 : Int) (a1_1 : Int) (a1_2 : Int) (a1_3 : Int) (a1_4 : Int) : Option (Int):=if a1_0 = 1 then (scarfjointref03_One.j0 k a0 false a1_0 a1_1 a1_2 a1_3 a1_4) else (scarfjointref03_One.j0 k a0 (a1_0 != 2) a1_0 a1_1 a1_2 a1_3 a1_4)
theorem scarfjointref03_One.mono_l : ∀ k,(∀ y0 y1 y2 y3 y4 y5 y6,LeO (scarfjointref03_One.j0 k y0 y1 y2 y3 y4 y5 y6) (scarfjointref03_One.j0 (k + 1) y0 y1 y2 y3 y4 y5 y6))
 | 0 => fun _ _ _ _ _ _ _ r h => by simp [scarfjointref03_One.j0] at h
 | k + 1 => by
  have ih0:=scarfjointref03_One.mono_l k
  ·intro y0 y1 y2 y3 y4 y5 y6
   unfold scarfjointref03_One.j0
   repeat' first
   | (with_reducible exact ih0 _ _ _ _ _ _ _)
   | (with_reducible exact LeO.refl _)
   | (with_reducible exact LeO.none _)
   | (with_reducible refine LeO.ite ?_ ?_)
   | (with_reducible refine LeO.bind ?_ (fun _ => ?_))
   | exact ih0 _ _ _ _ _ _ _
   | exact LeO.none _
   | refine LeO.ite ?_ ?_
   | refine LeO.bind ?_ (fun _ => ?_)
theorem scarfjointref03_One.mono : ∀ a0 a1 a2 a3 a4 a5 k,LeO (scarfjointref03_One.f k a0 a1 a2 a3 a4 a5) (scarfjointref03_One.f (k + 1) a0 a1 a2 a3 a4 a5):=by
 intro a0 a1 a2 a3 a4 a5 k
 have ih0:=scarfjointref03_One.mono_l k
 unfold scarfjointref03_One.f
 repeat' first
   | (with_reducible exact ih0 _ _ _ _ _ _ _)
   | (with_reducible exact LeO.refl _)
   | (with_reducible exact LeO.none _)
   | (with_reducible refine LeO.ite ?_ ?_)
   | (with_reducible refine LeO.bind ?_ (fun _ => ?_))
   | exact ih0 _ _ _ _ _ _ _
   | exact LeO.none _
   | refine LeO.ite ?_ ?_
   | refine LeO.bind ?_ (fun _ => ?_)
set_option maxHeartbeats 8000000 in
set_option maxRecDepth 100000 in
theorem scarfjointref03_One.calls (k : Nat) (a0 : Int) (a1_0 : Int) (a1_1 : Int) (a1_2 : Int) (a1_3 : Int) (a1_4 : Int) (r : Int) (w : World) (h : scarfjointref03_One.f k a0 a1_0 a1_1 a1_2 a1_3 a1_4 = some r) :
  Calls Try.prog 43 #[.int .i64 a0,.agg #[.int .i64 a1_0,.int .i64 a1_1,.int .i64 a1_2,.int .i64 a1_3,.int .i64 a1_4]] w fun e w'=>e = .returned (.int .i64 r) ∧ Below w.heap.size w w':=by
 have hu26:=Try.underlying26
 have hu24:=Try.underlying24
 have HB:=Aside0.mk (Below.refl w.heap.size w)
 have H : (if a1_0 = 1 then (scarfjointref03_One.j0 k a0 false a1_0 a1_1 a1_2 a1_3 a1_4) else (scarfjointref03_One.j0 k a0 (a1_0 != 2) a1_0 a1_1 a1_2 a1_3 a1_4)) = some r:=h
 clear h
 have HC3:=Aside0.mk H
 clear H
 go_enter Try.func43,Try.ntmps43
 go_upto_region 1 with (first|((with_reducible refine gate_dst (N:=3) rfl ?_);refine box_event ?hg (N:=3) ?hd (cs:=#[.int .i64 a1_0,.int .i64 a1_1,.int .i64 a1_2,.int .i64 a1_3,.int .i64 a1_4]) (t:=26) ?hr ?_;(case hd=>rfl);(case hg=>rfl);(case hr=>first|(go_simp;done)|(go_simp;rfl));intro gb286 hg w4 hbox hb;have n0_:=Aside0.mk (below_step (by repeat (first|(with_reducible first|exact HB.out|apply below_alloc|apply pw_below_drewN|apply below_drew1)|exact HB.out)) hb);have n1_:=Aside0.mk (hbox);have n2_:=Aside0.mk ((by rw [hg];exact (below_size (by repeat (first|(with_reducible first|exact HB.out|apply below_alloc|apply pw_below_drewN|apply below_drew1)|exact HB.out))) : w.heap.size ≤ gb286));have n3_:=Aside0.mk ((by rw [hg];exact (below_size (by repeat (first|(with_reducible first|exact HB.out|apply below_alloc|apply pw_below_drewN|apply below_drew1)|exact HB.out))) : w.heap.size ≤ gb286));clear HB;have HB:=n0_;have BK286:=n1_;have GW286:=n2_;have GE286:=n3_;clear n0_ n1_ n2_ n3_;clear hb hbox hg))
 (try simp only [Act.put,List.setIfInBounds_toArray,List.set_cons_zero,List.set_cons_succ])
 go_cut [13] (fun v13 wc=>∃ (kq : Nat) (x13_2 : Bool),v13 = .bool x13_2 ∧ Aside0 (scarfjointref03_One.j0 kq a0 x13_2 a1_0 a1_1 a1_2 a1_3 a1_4 = some r) ∧ Aside0 (kq ≤ k) ∧ Aside0 (wc.heap[gb286]? = some (.cells #[.int .i64 a1_0,.int .i64 a1_1,.int .i64 a1_2,.int .i64 a1_3,.int .i64 a1_4] 26 (0,0))) ∧ Aside0 (Below w.heap.size w wc))
 case first =>
  have H:=HC3.out
  clear HC3
  by_cases c5 : a1_0 = 1
  ·rw [if_pos c5] at H
   have c5b0 : (a1_0 == 1) = true:=beq_iff_eq.mpr c5
   have c5b1 : (a1_0 != 1) = false:=bne_eq_false_iff_eq.mpr c5
   clear c5
   (first|rw [c5b0]|(simp only [i64_w,i32_w];rw [c5b0])|skip)
   have H':=Aside0.mk H
   clear H
   have hcz6_0 : w4.cell? ⟨gb286,0,none⟩ = some (.int .i64 a1_0):=(blk_cell BK286.out 0).trans rfl
   have hcz6_1 : w4.cell? ⟨gb286,1,none⟩ = some (.int .i64 a1_1):=(blk_cell BK286.out 1).trans rfl
   have hcz6_2 : w4.cell? ⟨gb286,2,none⟩ = some (.int .i64 a1_2):=(blk_cell BK286.out 2).trans rfl
   have hcz6_3 : w4.cell? ⟨gb286,3,none⟩ = some (.int .i64 a1_3):=(blk_cell BK286.out 3).trans rfl
   have hcz6_4 : w4.cell? ⟨gb286,4,none⟩ = some (.int .i64 a1_4):=(blk_cell BK286.out 4).trans rfl
   have hfz6_0:=blk_frozen BK286.out 0
   have hfz6_1:=blk_frozen BK286.out 1
   have hfz6_2:=blk_frozen BK286.out 2
   have hfz6_3:=blk_frozen BK286.out 3
   have hfz6_4:=blk_frozen BK286.out 4
   go_wp2
   go_meet
   case rel=>exact ⟨_,(false),(by first|rfl|(simp;done)|(simp [*];done)),H',⟨by first|omega|exact Nat.le_refl _⟩,⟨by (with_reducible repeat (first|refine blk_drewN ?_ _|refine blk_drew ?_|refine blk_alloc ?_ _));exact BK286.out⟩,⟨by repeat (first|(with_reducible first|exact HB.out|apply below_alloc|apply pw_below_drewN|apply below_drew1|refine below_set ?_ GE286.out)|exact HB.out)⟩⟩
  ·rw [if_neg c5] at H
   have c5b0 : (a1_0 == 1) = false:=beq_eq_false_iff_ne.mpr c5
   have c5b1 : (a1_0 != 1) = true:=bne_iff_ne.mpr c5
   (first|rw [c5b0]|(simp only [i64_w,i32_w];rw [c5b0])|skip)
   have H':=Aside0.mk H
   clear H
   have hcz7_0 : w4.cell? ⟨gb286,0,none⟩ = some (.int .i64 a1_0):=(blk_cell BK286.out 0).trans rfl
   have hcz7_1 : w4.cell? ⟨gb286,1,none⟩ = some (.int .i64 a1_1):=(blk_cell BK286.out 1).trans rfl
   have hcz7_2 : w4.cell? ⟨gb286,2,none⟩ = some (.int .i64 a1_2):=(blk_cell BK286.out 2).trans rfl
   have hcz7_3 : w4.cell? ⟨gb286,3,none⟩ = some (.int .i64 a1_3):=(blk_cell BK286.out 3).trans rfl
   have hcz7_4 : w4.cell? ⟨gb286,4,none⟩ = some (.int .i64 a1_4):=(blk_cell BK286.out 4).trans rfl
   have hfz7_0:=blk_frozen BK286.out 0
   have hfz7_1:=blk_frozen BK286.out 1
   have hfz7_2:=blk_frozen BK286.out 2
   have hfz7_3:=blk_frozen BK286.out 3
   have hfz7_4:=blk_frozen BK286.out 4
   go_wp2
   go_meet
   case rel=>exact ⟨_,((a1_0 != 2)),(by first|rfl|(simp;done)|(simp [*];done)),H',⟨by first|omega|exact Nat.le_refl _⟩,⟨by (with_reducible repeat (first|refine blk_drewN ?_ _|refine blk_drew ?_|refine blk_alloc ?_ _));exact BK286.out⟩,⟨by repeat (first|(with_reducible first|exact HB.out|apply below_alloc|apply pw_below_drewN|apply below_drew1|refine below_set ?_ GE286.out)|exact HB.out)⟩⟩
 case rest =>
  clear HC3
  try clear p2
  try clear c4
  try clear c5
  try clear c5b0
  try clear c5b1
  try clear hcz6_0
  try clear hcz6_1
  try clear hcz6_2
  try clear hcz6_3
  try clear hcz6_4
  try clear hcz7_0
  try clear hcz7_1
  try clear hcz7_2
  try clear hcz7_3
  try clear hcz7_4
  try clear hfz6_0
  try clear hfz6_1
  try clear hfz6_2
  try clear hfz6_3
  try clear hfz6_4
  try clear hfz7_0
  try clear hfz7_1
  try clear hfz7_2
  try clear hfz7_3
  try clear hfz7_4
  obtain ⟨kq,x13_2,rfl,HA,HJ2,BK286,HB⟩:=hcut
  cases kq with
  | zero => exact absurd HA.out (by simp [scarfjointref03_One.j0])
  | succ kj2 =>
   have H:=HA.out
   clear HA
   simp only [scarfjointref03_One.j0] at H
   by_cases c8 : x13_2 = true
   ·subst c8
    have H1 : (some 1) = some r:=by rw [if_pos rfl] at H;exact H
    clear H
    have H:=H1
    clear H1
    obtain rfl:=Option.some.inj H
    go_wp2
    go_ret
    exact ⟨by first|rfl|(simp [errW_none,errW_some] <;> rfl)|(simp [*,errW_none,errW_some] <;> rfl),by repeat (first|(with_reducible first|exact HB.out|apply below_alloc|apply pw_below_drewN|apply below_drew1|refine below_set ?_ GE286.out)|exact HB.out)⟩
   ·replace c8:=Bool.eq_false_iff.mpr c8
    subst c8
    have H1 : ((scarfjointref03_within.f a0 a1_1 a1_2).bind fun t287=>(if t287 = 0 then ((scarfjointref03_within.f a0 a1_3 a1_4).bind fun t288=>(some t288)) else (some t287))) = some r:=by rw [if_neg (show ¬ (false = true) by decide)] at H;exact H
    clear H
    have H:=H1
    clear H1
    replace H:=Option.bind_eq_some_iff.mp H
    obtain ⟨t287,A90,H⟩:=H
    replace H : (if t287 = 0 then ((scarfjointref03_within.f a0 a1_3 a1_4).bind fun t288=>(some t288)) else (some t287)) = some r:=H
    have A9:=Aside0.mk A90
    clear A90
    by_cases c10 : t287 = 0
    ·rw [if_pos c10] at H
     have c10b0 : (t287 == 0) = true:=beq_iff_eq.mpr c10
     have c10b1 : (t287 != 0) = false:=bne_eq_false_iff_eq.mpr c10
     clear c10
     replace H:=Option.bind_eq_some_iff.mp H
     obtain ⟨t288,A110,H⟩:=H
     replace H : (some t288) = some r:=H
     have A11:=Aside0.mk A110
     clear A110
     obtain rfl:=Option.some.inj H
     have hcz12_0 : wc.cell? ⟨gb286,0,none⟩ = some (.int .i64 a1_0):=(blk_cell BK286.out 0).trans rfl
     have hcz12_1 : wc.cell? ⟨gb286,1,none⟩ = some (.int .i64 a1_1):=(blk_cell BK286.out 1).trans rfl
     have hcz12_2 : wc.cell? ⟨gb286,2,none⟩ = some (.int .i64 a1_2):=(blk_cell BK286.out 2).trans rfl
     have hcz12_3 : wc.cell? ⟨gb286,3,none⟩ = some (.int .i64 a1_3):=(blk_cell BK286.out 3).trans rfl
     have hcz12_4 : wc.cell? ⟨gb286,4,none⟩ = some (.int .i64 a1_4):=(blk_cell BK286.out 4).trans rfl
     have hfz12_0:=blk_frozen BK286.out 0
     have hfz12_1:=blk_frozen BK286.out 1
     have hfz12_2:=blk_frozen BK286.out 2
     have hfz12_3:=blk_frozen BK286.out 3
     have hfz12_4:=blk_frozen BK286.out 4
     go_wp2_with (first|((with_reducible refine gate_callee (f:=65) rfl ?_);refine goesL_ (some 17) rfl rfl Try.func65 (by kernel_rfl) rfl #[.int .i64 a0,.agg #[.int .i64 a1_1,.int .i64 a1_2]] rfl (by (try simp only [List.map_toArray,List.map_cons,List.map_nil]);first|done|rfl|(simp only [List.length_drop,List.length_take];rfl)) ?_;(with_reducible refine (scarfjointref03_within.calls a0 a1_1 a1_2 t287 _ A9.out).mono ?_);rintro e w13 ⟨rfl,hb⟩;refine ⟨_,rfl,?_⟩;have n0_:=Aside0.mk (blk_below (g:=gb286) (o:=.cells #[.int .i64 a1_0,.int .i64 a1_1,.int .i64 a1_2,.int .i64 a1_3,.int .i64 a1_4] 26 (0,0)) (by (with_reducible repeat (first|refine blk_drewN ?_ _|refine blk_drew ?_|refine blk_alloc ?_ _));exact BK286.out) hb);have n1_:=Aside0.mk (below_step (by repeat (first|(with_reducible first|exact HB.out|apply below_alloc|apply pw_below_drewN|apply below_drew1|refine below_set ?_ GE286.out)|exact HB.out)) hb);clear BK286;clear HB;have BK286:=n0_;have HB:=n1_;clear n0_ n1_;(try clear hb);(try clear hb2);(try clear hk);(try clear hi);have hcz14_0 : w13.cell? ⟨gb286,0,none⟩ = some (.int .i64 a1_0):=(blk_cell BK286.out 0).trans rfl;have hcz14_1 : w13.cell? ⟨gb286,1,none⟩ = some (.int .i64 a1_1):=(blk_cell BK286.out 1).trans rfl;have hcz14_2 : w13.cell? ⟨gb286,2,none⟩ = some (.int .i64 a1_2):=(blk_cell BK286.out 2).trans rfl;have hcz14_3 : w13.cell? ⟨gb286,3,none⟩ = some (.int .i64 a1_3):=(blk_cell BK286.out 3).trans rfl;have hcz14_4 : w13.cell? ⟨gb286,4,none⟩ = some (.int .i64 a1_4):=(blk_cell BK286.out 4).trans rfl;have hfz14_0:=blk_frozen BK286.out 0;have hfz14_1:=blk_frozen BK286.out 1;have hfz14_2:=blk_frozen BK286.out 2;have hfz14_3:=blk_frozen BK286.out 3;have hfz14_4:=blk_frozen BK286.out 4)|((with_reducible refine gate_callee (f:=65) rfl ?_);refine goesL_ (some 24) rfl rfl Try.func65 (by kernel_rfl) rfl #[.int .i64 a0,.agg #[.int .i64 a1_3,.int .i64 a1_4]] rfl (by (try simp only [List.map_toArray,List.map_cons,List.map_nil]);first|done|rfl|(simp only [List.length_drop,List.length_take];rfl)) ?_;(with_reducible refine (scarfjointref03_within.calls a0 a1_3 a1_4 t288 _ A11.out).mono ?_);rintro e w15 ⟨rfl,hb⟩;refine ⟨_,rfl,?_⟩;have n0_:=Aside0.mk (blk_below (g:=gb286) (o:=.cells #[.int .i64 a1_0,.int .i64 a1_1,.int .i64 a1_2,.int .i64 a1_3,.int .i64 a1_4] 26 (0,0)) (by (with_reducible repeat (first|refine blk_drewN ?_ _|refine blk_drew ?_|refine blk_alloc ?_ _));exact BK286.out) hb);have n1_:=Aside0.mk (below_step (by repeat (first|(with_reducible first|exact HB.out|apply below_alloc|apply pw_below_drewN|apply below_drew1|refine below_set ?_ GE286.out)|exact HB.out)) hb);clear BK286;clear HB;have BK286:=n0_;have HB:=n1_;clear n0_ n1_;(try clear hb);(try clear hb2);(try clear hk);(try clear hi)))
     go_ret
     exact ⟨by first|rfl|(simp [errW_none,errW_some] <;> rfl)|(simp [*,errW_none,errW_some] <;> rfl),by repeat (first|(with_reducible first|exact HB.out|apply below_alloc|apply pw_below_drewN|apply below_drew1|refine below_set ?_ GE286.out)|exact HB.out)⟩
    ·rw [if_neg c10] at H
     have c10b0 : (t287 == 0) = false:=beq_eq_false_iff_ne.mpr c10
     have c10b1 : (t287 != 0) = true:=bne_iff_ne.mpr c10
     obtain rfl:=Option.some.inj H
     have hcz16_0 : wc.cell? ⟨gb286,0,none⟩ = some (.int .i64 a1_0):=(blk_cell BK286.out 0).trans rfl
     have hcz16_1 : wc.cell? ⟨gb286,1,none⟩ = some (.int .i64 a1_1):=(blk_cell BK286.out 1).trans rfl
     have hcz16_2 : wc.cell? ⟨gb286,2,none⟩ = some (.int .i64 a1_2):=(blk_cell BK286.out 2).trans rfl
     have hcz16_3 : wc.cell? ⟨gb286,3,none⟩ = some (.int .i64 a1_3):=(blk_cell BK286.out 3).trans rfl
     have hcz16_4 : wc.cell? ⟨gb286,4,none⟩ = some (.int .i64 a1_4):=(blk_cell BK286.out 4).trans rfl
     have hfz16_0:=blk_frozen BK286.out 0
     have hfz16_1:=blk_frozen BK286.out 1
     have hfz16_2:=blk_frozen BK286.out 2
     have hfz16_3:=blk_frozen BK286.out 3
     have hfz16_4:=blk_frozen BK286.out 4
     go_wp2_with (first|((with_reducible refine gate_callee (f:=65) rfl ?_);refine goesL_ (some 17) rfl rfl Try.func65 (by kernel_rfl) rfl #[.int .i64 a0,.agg #[.int .i64 a1_1,.int .i64 a1_2]] rfl (by (try simp only [List.map_toArray,List.map_cons,List.map_nil]);first|done|rfl|(simp only [List.length_drop,List.length_take];rfl)) ?_;(with_reducible refine (scarfjointref03_within.calls a0 a1_1 a1_2 t287 _ A9.out).mono ?_);rintro e w17 ⟨rfl,hb⟩;refine ⟨_,rfl,?_⟩;have n0_:=Aside0.mk (blk_below (g:=gb286) (o:=.cells #[.int .i64 a1_0,.int .i64 a1_1,.int .i64 a1_2,.int .i64 a1_3,.int .i64 a1_4] 26 (0,0)) (by (with_reducible repeat (first|refine blk_drewN ?_ _|refine blk_drew ?_|refine blk_alloc ?_ _));exact BK286.out) hb);have n1_:=Aside0.mk (below_step (by repeat (first|(with_reducible first|exact HB.out|apply below_alloc|apply pw_below_drewN|apply below_drew1|refine below_set ?_ GE286.out)|exact HB.out)) hb);clear BK286;clear HB;have BK286:=n0_;have HB:=n1_;clear n0_ n1_;(try clear hb);(try clear hb2);(try clear hk);(try clear hi)))
     go_ret
     exact ⟨by first|rfl|(simp [errW_none,errW_some] <;> rfl)|(simp [*,errW_none,errW_some] <;> rfl),by repeat (first|(with_reducible first|exact HB.out|apply below_alloc|apply pw_below_drewN|apply below_drew1|refine below_set ?_ GE286.out)|exact HB.out)⟩

end Go.Proofs.Yteebkkdbkkibmaa.Pr
