/- Functions of this claim and what their calls compute, written by wip/tools/mp.py, a variant of the kit printer. Conditions: each theorem has its own. -/
import Derived.Test.YteebkkdbkkibmaaPr0
import Derived.Test.YteebkkdbkkibmaaPr4
import Derived.Test.YteebkkdbkkibmaaPr5
import Derived.Test.YteebkkdbkkibmaaPr9
import Derived.Test.YteebkkdbkkibmaaPr10
namespace Go.Proofs.Yteebkkdbkkibmaa.Pr
open Go.RowKit Go.Proofs.YteebkkdbkkibmaaW.PrintWords Go.Proofs.YteebkkdbkkibmaaW.PrintLast Go.Proofs.YteebkkdbkkibmaaW.PrintMore
attribute [local go_sem] max2_int min2_int max_two min_two max_three min_three max_four min_four   -- for this text's walks alone
set_option linter.unusedVariables false
set_option linter.unusedSimpArgs false

/-! ### difference_Refute: function 18 -/
mutual
def difference_Refute.l0 : Nat → List (S71) → List (List (List Int)) → Option ((List (S55)) × Int)
 | 0,_,_ => none
 | k + 1,x7,x10 => if 0 ≤ (wrap64 ((x10.length : Int) - 1)) then (if (wrap64 ((x10.length : Int) - 1)) < (x10.length : Int) then ((difference_closed.f k (rd_L6 x10 (wrap64 ((x10.length : Int) - 1)))).bind fun t227 => (if t227 = true then (difference_Refute.l1 k x7 x10 ([] : List (S55)) (-1) 0 0 (wrap64 ((x10.length : Int) - 2))) else ((difference_longer.f k (rd_L6 x10 (wrap64 ((x10.length : Int) - 1))) x7).bind fun t229 => (if x10.length < 5864062014805 then (difference_Refute.l0 k x7 (x10 ++ [t229])) else (none))))) else (none)) else (none)
def difference_Refute.l1 : Nat → List (S71) → List (List (List Int)) → List (S55) → Int → Int → Int → Int → Option ((List (S55)) × Int)
 | 0,_,_,_,_,_,_,_ => none
 | k + 1,x7,x10,x11,x12,x13,x14,x15 => if x15 ≥ 0 then (difference_Refute.l2 k x7 x10 x11 x12 x13 x14 x15 x7 (x7.length : Int) 0) else (some (x11,0))
def difference_Refute.l2 : Nat → List (S71) → List (List (List Int)) → List (S55) → Int → Int → Int → Int → List (S71) → Int → Int → Option ((List (S55)) × Int)
 | 0,_,_,_,_,_,_,_,_,_,_ => none
 | k + 1,x7,x10,x11,x12,x13,x14,x15,x64,x65,x66 => if x66 < x65 then (if 0 ≤ x66 then (if x66 < (x64.length : Int) then (if x12 < 0 then (difference_Refute.j3 k x7 x10 x11 x12 x13 x14 x15 ((rd_T71 x64 x66).f1) x64 x65 x66 ((rd_T71 x64 x66).f0.f0) ((rd_T71 x64 x66).f0.f1) ((rd_T71 x64 x66).f1) ((rd_T71 x64 x66).f2) ((rd_T71 x64 x66).f3)) else (if ((rd_T71 x64 x66).f1) = x13 then (difference_Refute.j3 k x7 x10 x11 x12 x13 x14 x15 x12 x64 x65 x66 ((rd_T71 x64 x66).f0.f0) ((rd_T71 x64 x66).f0.f1) ((rd_T71 x64 x66).f1) ((rd_T71 x64 x66).f2) ((rd_T71 x64 x66).f3)) else (difference_Refute.l2 k x7 x10 x11 x12 x13 x14 x15 x64 x65 (wrap64 (x66 + 1))))) else (none)) else (none)) else (difference_Refute.l1 k x7 x10 x11 x12 x13 x14 (wrap64 (x15 - 1)))
def difference_Refute.j3 : Nat → List (S71) → List (List (List Int)) → List (S55) → Int → Int → Int → Int → Int → List (S71) → Int → Int → Int → Int → Int → Int → Int → Option ((List (S55)) × Int)
 | 0,_,_,_,_,_,_,_,_,_,_,_,_,_,_,_,_ => none
 | k + 1,x7,x10,x11,x12,x13,x14,x15,x18,x64,x65,x66,x237000,x237001,x237002,x237003,x237004 => if 0 ≤ x15 then (if x15 < (x10.length : Int) then (if 0 ≤ x237003 then (if x237003 < ((rd_L6 x10 x15).length : Int) then (if 0 ≤ x18 then (if x18 < ((rd_L5 (rd_L6 x10 x15) x237003).length : Int) then (if (rd (rd_L5 (rd_L6 x10 x15) x237003) x18) < 1125899906842624 then (if (wrap64 ((wrap64 (x14 + x237004)) + (rd (rd_L5 (rd_L6 x10 x15) x237003) x18))) < 0 then (if x11.length < 8796093022208 then (difference_Refute.l1 k x7 x10 (x11 ++ [(⟨x237000,x237001⟩ : S55)]) x18 x237003 (wrap64 (x14 + x237004)) (wrap64 (x15 - 1))) else (none)) else (difference_Refute.l2 k x7 x10 x11 x12 x13 x14 x15 x64 x65 (wrap64 (x66 + 1)))) else (difference_Refute.l2 k x7 x10 x11 x12 x13 x14 x15 x64 x65 (wrap64 (x66 + 1)))) else (none)) else (none)) else (none)) else (none)) else (none)) else (none)
end
def difference_Refute.f (k : Nat) (a0 : Int) (l1 : List (S26)) : Option ((List (S55)) × Int):=(difference_Valid.f k a0 l1).bind fun t212=>(if t212 = 0 then ((difference_arcs.f k l1).bind fun t213=>((difference_distances.f k a0 t213).bind fun bt216=>(if bt216.2 = true then (some (([] : List (S55)),10)) else ((difference_fresh.f k a0).bind fun t220=>(difference_Refute.l0 k t213 (([t220] : List (List (List Int))))))))) else (some (([] : List (S55)),t212)))
theorem difference_Refute.mono_l : ∀ k,(∀ y0 y1,LeO (difference_Refute.l0 k y0 y1) (difference_Refute.l0 (k + 1) y0 y1)) ∧ (∀ y0 y1 y2 y3 y4 y5 y6,LeO (difference_Refute.l1 k y0 y1 y2 y3 y4 y5 y6) (difference_Refute.l1 (k + 1) y0 y1 y2 y3 y4 y5 y6)) ∧ (∀ y0 y1 y2 y3 y4 y5 y6 y7 y8 y9,LeO (difference_Refute.l2 k y0 y1 y2 y3 y4 y5 y6 y7 y8 y9) (difference_Refute.l2 (k + 1) y0 y1 y2 y3 y4 y5 y6 y7 y8 y9)) ∧ (∀ y0 y1 y2 y3 y4 y5 y6 y7 y8 y9 y10 y11 y12 y13 y14 y15,LeO (difference_Refute.j3 k y0 y1 y2 y3 y4 y5 y6 y7 y8 y9 y10 y11 y12 y13 y14 y15) (difference_Refute.j3 (k + 1) y0 y1 y2 y3 y4 y5 y6 y7 y8 y9 y10 y11 y12 y13 y14 y15))
 | 0 => ⟨fun _ _ r h => by simp [difference_Refute.l0] at h,fun _ _ _ _ _ _ _ r h => by simp [difference_Refute.l1] at h,fun _ _ _ _ _ _ _ _ _ _ r h => by simp [difference_Refute.l2] at h,fun _ _ _ _ _ _ _ _ _ _ _ _ _ _ _ _ r h => by simp [difference_Refute.j3] at h⟩
 | k + 1 => by
  obtain ⟨ih0,ih1,ih2,ih3⟩:=difference_Refute.mono_l k
  refine ⟨?_,?_,?_,?_⟩
  ·intro y0 y1
   unfold difference_Refute.l0
   repeat' first
   | (with_reducible exact ih0 _ _)
   | (with_reducible exact ih1 _ _ _ _ _ _ _)
   | (with_reducible exact ih2 _ _ _ _ _ _ _ _ _ _)
   | (with_reducible exact ih3 _ _ _ _ _ _ _ _ _ _ _ _ _ _ _ _)
   | (with_reducible exact difference_Valid.mono _ _ _)
   | (with_reducible exact difference_arcs.mono _ _)
   | (with_reducible exact difference_closed.mono _ _)
   | (with_reducible exact difference_distances.mono _ _ _)
   | (with_reducible exact difference_fresh.mono _ _)
   | (with_reducible exact difference_longer.mono _ _ _)
   | (with_reducible exact LeO.refl _)
   | (with_reducible exact LeO.none _)
   | (with_reducible refine LeO.ite ?_ ?_)
   | (with_reducible refine LeO.bind ?_ (fun _ => ?_))
   | exact ih0 _ _
   | exact ih1 _ _ _ _ _ _ _
   | exact ih2 _ _ _ _ _ _ _ _ _ _
   | exact ih3 _ _ _ _ _ _ _ _ _ _ _ _ _ _ _ _
   | exact difference_Valid.mono _ _ _
   | exact difference_arcs.mono _ _
   | exact difference_closed.mono _ _
   | exact difference_distances.mono _ _ _
   | exact difference_fresh.mono _ _
   | exact difference_longer.mono _ _ _
   | exact LeO.none _
   | refine LeO.ite ?_ ?_
   | refine LeO.bind ?_ (fun _ => ?_)
  ·intro y0 y1 y2 y3 y4 y5 y6
   unfold difference_Refute.l1
   repeat' first
   | (with_reducible exact ih0 _ _)
   | (with_reducible exact ih1 _ _ _ _ _ _ _)
   | (with_reducible exact ih2 _ _ _ _ _ _ _ _ _ _)
   | (with_reducible exact ih3 _ _ _ _ _ _ _ _ _ _ _ _ _ _ _ _)
   | (with_reducible exact difference_Valid.mono _ _ _)
   | (with_reducible exact difference_arcs.mono _ _)
   | (with_reducible exact difference_closed.mono _ _)
   | (with_reducible exact difference_distances.mono _ _ _)
   | (with_reducible exact difference_fresh.mono _ _)
   | (with_reducible exact difference_longer.mono _ _ _)
   | (with_reducible exact LeO.refl _)
   | (with_reducible exact LeO.none _)
   | (with_reducible refine LeO.ite ?_ ?_)
   | (with_reducible refine LeO.bind ?_ (fun _ => ?_))
   | exact ih0 _ _
   | exact ih1 _ _ _ _ _ _ _
   | exact ih2 _ _ _ _ _ _ _ _ _ _
   | exact ih3 _ _ _ _ _ _ _ _ _ _ _ _ _ _ _ _
   | exact difference_Valid.mono _ _ _
   | exact difference_arcs.mono _ _
   | exact difference_closed.mono _ _
   | exact difference_distances.mono _ _ _
   | exact difference_fresh.mono _ _
   | exact difference_longer.mono _ _ _
   | exact LeO.none _
   | refine LeO.ite ?_ ?_
   | refine LeO.bind ?_ (fun _ => ?_)
  ·intro y0 y1 y2 y3 y4 y5 y6 y7 y8 y9
   unfold difference_Refute.l2
   repeat' first
   | (with_reducible exact ih0 _ _)
   | (with_reducible exact ih1 _ _ _ _ _ _ _)
   | (with_reducible exact ih2 _ _ _ _ _ _ _ _ _ _)
   | (with_reducible exact ih3 _ _ _ _ _ _ _ _ _ _ _ _ _ _ _ _)
   | (with_reducible exact difference_Valid.mono _ _ _)
   | (with_reducible exact difference_arcs.mono _ _)
   | (with_reducible exact difference_closed.mono _ _)
   | (with_reducible exact difference_distances.mono _ _ _)
   | (with_reducible exact difference_fresh.mono _ _)
   | (with_reducible exact difference_longer.mono _ _ _)
   | (with_reducible exact LeO.refl _)
   | (with_reducible exact LeO.none _)
   | (with_reducible refine LeO.ite ?_ ?_)
   | (with_reducible refine LeO.bind ?_ (fun _ => ?_))
   | exact ih0 _ _
   | exact ih1 _ _ _ _ _ _ _
   | exact ih2 _ _ _ _ _ _ _ _ _ _
   | exact ih3 _ _ _ _ _ _ _ _ _ _ _ _ _ _ _ _
   | exact difference_Valid.mono _ _ _
   | exact difference_arcs.mono _ _
   | exact difference_closed.mono _ _
   | exact difference_distances.mono _ _ _
   | exact difference_fresh.mono _ _
   | exact difference_longer.mono _ _ _
   | exact LeO.none _
   | refine LeO.ite ?_ ?_
   | refine LeO.bind ?_ (fun _ => ?_)
  ·intro y0 y1 y2 y3 y4 y5 y6 y7 y8 y9 y10 y11 y12 y13 y14 y15
   unfold difference_Refute.j3
   repeat' first
   | (with_reducible exact ih0 _ _)
   | (with_reducible exact ih1 _ _ _ _ _ _ _)
   | (with_reducible exact ih2 _ _ _ _ _ _ _ _ _ _)
   | (with_reducible exact ih3 _ _ _ _ _ _ _ _ _ _ _ _ _ _ _ _)
   | (with_reducible exact difference_Valid.mono _ _ _)
   | (with_reducible exact difference_arcs.mono _ _)
   | (with_reducible exact difference_closed.mono _ _)
   | (with_reducible exact difference_distances.mono _ _ _)
   | (with_reducible exact difference_fresh.mono _ _)
   | (with_reducible exact difference_longer.mono _ _ _)
   | (with_reducible exact LeO.refl _)
   | (with_reducible exact LeO.none _)
   | (with_reducible refine LeO.ite ?_ ?_)
   | (with_reducible refine LeO.bind ?_ (fun _ => ?_))
   | exact ih0 _ _
   | exact ih1 _ _ _ _ _ _ _
   | exact ih2 _ _ _ _ _ _ _ _ _ _
   | exact ih3 _ _ _ _ _ _ _ _ _ _ _ _ _ _ _ _
   | exact difference_Valid.mono _ _ _
   | exact difference_arcs.mono _ _
   | exact difference_closed.mono _ _
   | exact difference_distances.mono _ _ _
   | exact difference_fresh.mono _ _
   | exact difference_longer.mono _ _ _
   | exact LeO.none _
   | refine LeO.ite ?_ ?_
   | refine LeO.bind ?_ (fun _ => ?_)
theorem difference_Refute.mono : ∀ a0 a1 k,LeO (difference_Refute.f k a0 a1) (difference_Refute.f (k + 1) a0 a1):=by
 intro a0 a1 k
 obtain ⟨ih0,ih1,ih2,ih3⟩:=difference_Refute.mono_l k
 unfold difference_Refute.f
 repeat' first
   | (with_reducible exact ih0 _ _)
   | (with_reducible exact ih1 _ _ _ _ _ _ _)
   | (with_reducible exact ih2 _ _ _ _ _ _ _ _ _ _)
   | (with_reducible exact ih3 _ _ _ _ _ _ _ _ _ _ _ _ _ _ _ _)
   | (with_reducible exact difference_Valid.mono _ _ _)
   | (with_reducible exact difference_arcs.mono _ _)
   | (with_reducible exact difference_closed.mono _ _)
   | (with_reducible exact difference_distances.mono _ _ _)
   | (with_reducible exact difference_fresh.mono _ _)
   | (with_reducible exact difference_longer.mono _ _ _)
   | (with_reducible exact LeO.refl _)
   | (with_reducible exact LeO.none _)
   | (with_reducible refine LeO.ite ?_ ?_)
   | (with_reducible refine LeO.bind ?_ (fun _ => ?_))
   | exact ih0 _ _
   | exact ih1 _ _ _ _ _ _ _
   | exact ih2 _ _ _ _ _ _ _ _ _ _
   | exact ih3 _ _ _ _ _ _ _ _ _ _ _ _ _ _ _ _
   | exact difference_Valid.mono _ _ _
   | exact difference_arcs.mono _ _
   | exact difference_closed.mono _ _
   | exact difference_distances.mono _ _ _
   | exact difference_fresh.mono _ _
   | exact difference_longer.mono _ _ _
   | exact LeO.none _
   | refine LeO.ite ?_ ?_
   | refine LeO.bind ?_ (fun _ => ?_)
set_option maxHeartbeats 8000000 in
set_option maxRecDepth 100000 in
theorem difference_Refute.calls (k : Nat) (a0 : Int) (A1 : Option Addr) (c1 : Nat) (l1 : List (S26)) (r1 : List (S55)) (r2 : Int) (w : World) (hr1 : Kd.C k26 w A1 l1.length l1) (hc1 : l1.length ≤ c1) (h : difference_Refute.f k a0 l1 = some (r1,r2)) :
  Calls Try.prog 18 #[.int .i64 a0,.slice A1 l1.length c1] w fun e w'=>∃ v0_ : Value,e = .returned (.tuple #[v0_,.int .i64 r2]) ∧ Kd.R k55 55 w' w.heap.size (fun _=>True) v0_ r1 ∧ Below w.heap.size w w':=by
 have hu71:=Try.underlying71
 have hu55:=Try.underlying55
 have HR1:=Aside0.mk hr1
 have HC1:=Aside0.mk hc1
 clear hr1 hc1
 have HB:=Aside0.mk (Below.refl w.heap.size w)
 have H : ((difference_Valid.f k a0 l1).bind fun t212=>(if t212 = 0 then ((difference_arcs.f k l1).bind fun t213=>((difference_distances.f k a0 t213).bind fun bt216=>(if bt216.2 = true then (some (([] : List (S55)),10)) else ((difference_fresh.f k a0).bind fun t220=>(difference_Refute.l0 k t213 (([t220] : List (List (List Int))))))))) else (some (([] : List (S55)),t212)))) = some (r1,r2):=h
 clear h
 replace H:=Option.bind_eq_some_iff.mp H
 obtain ⟨t212,A30,H⟩:=H
 replace H : (if t212 = 0 then ((difference_arcs.f k l1).bind fun t213=>((difference_distances.f k a0 t213).bind fun bt216=>(if bt216.2 = true then (some (([] : List (S55)),10)) else ((difference_fresh.f k a0).bind fun t220=>(difference_Refute.l0 k t213 (([t220] : List (List (List Int))))))))) else (some (([] : List (S55)),t212))) = some (r1,r2):=H
 have A3:=Aside0.mk A30
 clear A30
 by_cases c4 : t212 = 0
 ·rw [if_pos c4] at H
  have c4b0 : (t212 == 0) = true:=beq_iff_eq.mpr c4
  have c4b1 : (t212 != 0) = false:=bne_eq_false_iff_eq.mpr c4
  clear c4
  replace H:=Option.bind_eq_some_iff.mp H
  obtain ⟨t213,A50,H⟩:=H
  replace H : ((difference_distances.f k a0 t213).bind fun bt216=>(if bt216.2 = true then (some (([] : List (S55)),10)) else ((difference_fresh.f k a0).bind fun t220=>(difference_Refute.l0 k t213 (([t220] : List (List (List Int)))))))) = some (r1,r2):=H
  have A5:=Aside0.mk A50
  clear A50
  replace H:=Option.bind_eq_some_iff.mp H
  obtain ⟨⟨t216,t217⟩,A60,H⟩:=H
  replace H : (if t217 = true then (some (([] : List (S55)),10)) else ((difference_fresh.f k a0).bind fun t220=>(difference_Refute.l0 k t213 (([t220] : List (List (List Int))))))) = some (r1,r2):=H
  have A6:=Aside0.mk A60
  clear A60
  by_cases c7 : t217 = true
  ·subst c7
   have H1 : (some (([] : List (S55)),10)) = some (r1,r2):=by rw [if_pos rfl] at H;exact H
   clear H
   have H:=H1
   clear H1
   simp only [Option.some.injEq,Prod.mk.injEq] at H
   obtain ⟨rfl,rfl⟩:=H
   go_enter Try.func18,Try.ntmps18
   go_wp2_with (first|(go_at_call 30;(with_reducible refine (difference_Valid.calls k a0 _ _ l1 t212 _ ?side1 ?side2 A3.out).mono ?_);(case side1=>repeat (first|exact HR1.out|(with_reducible refine Kd.C_alloc ?_ _)|(with_reducible refine Kd.C_drewN ?_ _)|(with_reducible refine Kd.C_drew ?_)));(case side2=>exact HC1.out);rintro e w8 ⟨rfl,hb⟩;have n0_:=Aside0.mk (below_step (by repeat (first|(with_reducible first|exact HB.out|apply below_alloc|apply pw_below_drewN|apply below_drew1)|exact HB.out)) hb);clear HB;have HB:=n0_;clear n0_;(try clear hb);(try clear hb2);(try clear hk);(try clear hi))|(go_at_call 41;(with_reducible refine (difference_arcs.calls k _ _ l1 t213 _ ?side1 ?side2 A5.out).mono ?_);(case side1=>repeat (first|exact (Kd.C_below HR1.out HB.out)|(with_reducible refine Kd.C_alloc ?_ _)|(with_reducible refine Kd.C_drewN ?_ _)|(with_reducible refine Kd.C_drew ?_)));(case side2=>exact HC1.out);rintro e w9 ⟨v214,rfl,ho0,hb⟩;have n0_:=Aside0.mk (Kd.R_lower ho0 (below_size (by repeat (first|(with_reducible first|exact HB.out|apply below_alloc|apply pw_below_drewN|apply below_drew1)|exact HB.out))));have n1_:=Aside0.mk (below_step (by repeat (first|(with_reducible first|exact HB.out|apply below_alloc|apply pw_below_drewN|apply below_drew1)|exact HB.out)) hb);clear HB;have HO215:=n0_;have HB:=n1_;clear n0_ n1_;(try clear hb);(try clear hb2);(try clear hk);(try clear hi);(try clear ho0);obtain ⟨Ao10,co10,eo10⟩:=Kd.R_slice HO215.out;subst eo10)|(go_at_call 46;(with_reducible refine (difference_distances.calls k a0 _ _ t213 t216 true _ ?side1 ?side2 A6.out).mono ?_);(case side1=>repeat (first|exact (Kd.R_reads' HO215.out).2.2|(with_reducible refine Kd.C_alloc ?_ _)|(with_reducible refine Kd.C_drewN ?_ _)|(with_reducible refine Kd.C_drew ?_)));(case side2=>exact (Kd.R_reads' HO215.out).2.1);rintro e w11 ⟨v218,rfl,ho0,hb⟩;have n0_:=Aside0.mk (Kd.R_below (by (with_reducible repeat (first|apply Kd.R_alloc|apply Kd.R_drewN|apply Kd.R_drew));exact HO215.out) hb);have n1_:=Aside0.mk (Kd.R_lower ho0 (below_size (by repeat (first|(with_reducible first|exact HB.out|apply below_alloc|apply pw_below_drewN|apply below_drew1)|exact HB.out))));have n2_:=Aside0.mk (below_step (by repeat (first|(with_reducible first|exact HB.out|apply below_alloc|apply pw_below_drewN|apply below_drew1)|exact HB.out)) hb);clear HO215;clear HB;have HO215:=n0_;have HO219:=n1_;have HB:=n2_;clear n0_ n1_ n2_;(try clear hb);(try clear hb2);(try clear hk);(try clear hi);(try clear ho0)))
   go_ret2
   exact ⟨_,by first|rfl|(simp [errW_none,errW_some] <;> rfl)|(simp [*,errW_none,errW_some] <;> rfl),by first|exact Kd.R_nil _ _ _ _ _|exact Kd.N_nil _ _ _ _ _|exact Kd.V_nil _ _ _ _ _|exact Kd.Q_nil _ _ _ _ _|exact Kd.S_nil _ _ _ _ _,by repeat (first|(with_reducible first|exact HB.out|apply below_alloc|apply pw_below_drewN|apply below_drew1)|exact HB.out)⟩
  ·replace c7:=Bool.eq_false_iff.mpr c7
   subst c7
   have H1 : ((difference_fresh.f k a0).bind fun t220=>(difference_Refute.l0 k t213 (([t220] : List (List (List Int)))))) = some (r1,r2):=by rw [if_neg (show ¬ (false = true) by decide)] at H;exact H
   clear H
   have H:=H1
   clear H1
   replace H:=Option.bind_eq_some_iff.mp H
   obtain ⟨t220,A120,H⟩:=H
   replace H : (difference_Refute.l0 k t213 (([t220] : List (List (List Int))))) = some (r1,r2):=H
   have A12:=Aside0.mk A120
   clear A120
   obtain ⟨y223,hy223⟩ : ∃ y_ : List (List (List Int)),y_ = (([t220] : List (List (List Int)))):=⟨_,rfl⟩
   replace H : (difference_Refute.l0 k t213 y223) = some (r1,r2):=by first|(rw [hy223];with_reducible exact H)|(have H2_:=(Option.bind_some _ _).symm.trans H;rw [hy223];with_reducible exact H2_)|(have H2_:=(Option.bind_some _ _).symm.trans H;with_reducible exact H2_)|with_reducible exact H|(rw [hy223];exact H)|exact H
   have Ny223:=Aside0.mk hy223
   clear hy223
   have H':=Aside0.mk H
   clear H
   go_enter Try.func18,Try.ntmps18
   go_wp2_with (first|(go_at_call 30;(with_reducible refine (difference_Valid.calls k a0 _ _ l1 t212 _ ?side1 ?side2 A3.out).mono ?_);(case side1=>repeat (first|exact HR1.out|(with_reducible refine Kd.C_alloc ?_ _)|(with_reducible refine Kd.C_drewN ?_ _)|(with_reducible refine Kd.C_drew ?_)));(case side2=>exact HC1.out);rintro e w13 ⟨rfl,hb⟩;have n0_:=Aside0.mk (below_step (by repeat (first|(with_reducible first|exact HB.out|apply below_alloc|apply pw_below_drewN|apply below_drew1)|exact HB.out)) hb);clear HB;have HB:=n0_;clear n0_;(try clear hb);(try clear hb2);(try clear hk);(try clear hi))|(go_at_call 41;(with_reducible refine (difference_arcs.calls k _ _ l1 t213 _ ?side1 ?side2 A5.out).mono ?_);(case side1=>repeat (first|exact (Kd.C_below HR1.out HB.out)|(with_reducible refine Kd.C_alloc ?_ _)|(with_reducible refine Kd.C_drewN ?_ _)|(with_reducible refine Kd.C_drew ?_)));(case side2=>exact HC1.out);rintro e w14 ⟨v214,rfl,ho0,hb⟩;have n0_:=Aside0.mk (Kd.R_lower ho0 (below_size (by repeat (first|(with_reducible first|exact HB.out|apply below_alloc|apply pw_below_drewN|apply below_drew1)|exact HB.out))));have n1_:=Aside0.mk (below_step (by repeat (first|(with_reducible first|exact HB.out|apply below_alloc|apply pw_below_drewN|apply below_drew1)|exact HB.out)) hb);clear HB;have HO215:=n0_;have HB:=n1_;clear n0_ n1_;(try clear hb);(try clear hb2);(try clear hk);(try clear hi);(try clear ho0);obtain ⟨Ao15,co15,eo15⟩:=Kd.R_slice HO215.out;subst eo15)|(go_at_call 46;(with_reducible refine (difference_distances.calls k a0 _ _ t213 t216 false _ ?side1 ?side2 A6.out).mono ?_);(case side1=>repeat (first|exact (Kd.R_reads' HO215.out).2.2|(with_reducible refine Kd.C_alloc ?_ _)|(with_reducible refine Kd.C_drewN ?_ _)|(with_reducible refine Kd.C_drew ?_)));(case side2=>exact (Kd.R_reads' HO215.out).2.1);rintro e w16 ⟨v218,rfl,ho0,hb⟩;have n0_:=Aside0.mk (Kd.R_below (by (with_reducible repeat (first|apply Kd.R_alloc|apply Kd.R_drewN|apply Kd.R_drew));exact HO215.out) hb);have n1_:=Aside0.mk (Kd.R_lower ho0 (below_size (by repeat (first|(with_reducible first|exact HB.out|apply below_alloc|apply pw_below_drewN|apply below_drew1)|exact HB.out))));have n2_:=Aside0.mk (below_step (by repeat (first|(with_reducible first|exact HB.out|apply below_alloc|apply pw_below_drewN|apply below_drew1)|exact HB.out)) hb);clear HO215;clear HB;have HO215:=n0_;have HO219:=n1_;have HB:=n2_;clear n0_ n1_ n2_;(try clear hb);(try clear hb2);(try clear hk);(try clear hi);(try clear ho0))|(go_at_call 47;(with_reducible refine (difference_fresh.calls k a0 t220 _ A12.out).mono ?_);rintro e w17 ⟨v221,rfl,ho0,hb⟩;have n0_:=Aside0.mk (Kd.R_below (by (with_reducible repeat (first|apply Kd.R_alloc|apply Kd.R_drewN|apply Kd.R_drew));exact HO215.out) hb);have n1_:=Aside0.mk (Kd.R_below (by (with_reducible repeat (first|apply Kd.R_alloc|apply Kd.R_drewN|apply Kd.R_drew));exact HO219.out) hb);have n2_:=Aside0.mk (Kd.N_lower (Kd.N_mono (ok':=fun k_=>some k_ ≠ (.slice Ao15 t213.length co15 : Value).ownBlock ∧ some k_ ≠ (v218 : Value).ownBlock) (Kd.S_N (Kd.S_bound ho0)) (fun k_ hk_=>⟨(Kd.fresh' (Kd.R_lt (by (with_reducible repeat (first|apply Kd.R_alloc|apply Kd.R_drewN|apply Kd.R_drew));exact HO215.out)) k_ hk_.2.1),(Kd.fresh' (Kd.R_lt (by (with_reducible repeat (first|apply Kd.R_alloc|apply Kd.R_drewN|apply Kd.R_drew));exact HO219.out)) k_ hk_.2.1)⟩)) (below_size (by repeat (first|(with_reducible first|exact HB.out|apply below_alloc|apply pw_below_drewN|apply below_drew1)|exact HB.out))));have n3_:=Aside0.mk (below_step (by repeat (first|(with_reducible first|exact HB.out|apply below_alloc|apply pw_below_drewN|apply below_drew1)|exact HB.out)) hb);clear HO215;clear HO219;clear HB;have HO215:=n0_;have HO219:=n1_;have HO222:=n2_;have HB:=n3_;clear n0_ n1_ n2_ n3_;(try clear hb);(try clear hb2);(try clear hk);(try clear hi);(try clear ho0);obtain ⟨Ao18,co18,eo18⟩:=Kd.N_slice HO222.out;subst eo18)|((with_reducible refine gate_dst (N:=37) rfl ?_);refine Kd.N_lit (Kd.slice 36 (Kd.slice 3 (Kd.int .i64))) _ 82 ?hg (N':=37) ?hd (xs:=([t220] : List (List (List Int)))) (inner:=[.slice Ao18 t220.length co18]) (ok:=(fun k_=>some k_ ≠ (.slice Ao15 t213.length co15 : Value).ownBlock ∧ some k_ ≠ (v218 : Value).ownBlock)) (okp:=(fun k_=>some k_ ≠ (.slice Ao15 t213.length co15 : Value).ownBlock ∧ some k_ ≠ (v218 : Value).ownBlock)) ?hr ?hp (fun _ hk=>hk) ((show ∀ k_,w17.heap.size ≤ k_ → (fun k_=>some k_ ≠ (.slice Ao15 t213.length co15 : Value).ownBlock ∧ some k_ ≠ (v218 : Value).ownBlock) k_ from fun k_ hk=>⟨Kd.fresh' (Kd.R_lt (by (with_reducible repeat (first|apply Kd.R_alloc|apply Kd.R_drewN|apply Kd.R_drew));exact HO215.out)) k_ hk,Kd.fresh' (Kd.R_lt (by (with_reducible repeat (first|apply Kd.R_alloc|apply Kd.R_drewN|apply Kd.R_drew));exact HO219.out)) k_ hk⟩) _ (Nat.le_refl _)) (Below.refl _ _) (Nat.le_refl _) (by simp) ?_;(case hd=>rfl);(case hg=>rfl);(case hr=>first|(go_simp;done)|(go_simp;rfl));(case hp=>exact (Reps.one (show Kd.FK (Kd.slice 36 (Kd.slice 3 (Kd.int .i64))) _ _ t220 [.slice Ao18 t220.length co18] from (Kd.FK_slice_mk (Kd.N_reads' (Kd.N_mono (ok':=(fun k_=>some k_ ≠ (.slice Ao15 t213.length co15 : Value).ownBlock ∧ some k_ ≠ (v218 : Value).ownBlock)) (HO222.out) (fun k_ hk=>⟨hk.1,hk.2⟩))).2.1 (Kd.N_F (Kd.N_mono (ok':=(fun k_=>some k_ ≠ (.slice Ao15 t213.length co15 : Value).ownBlock ∧ some k_ ≠ (v218 : Value).ownBlock)) (HO222.out) (fun k_ hk=>⟨hk.1,hk.2⟩))))) (Reps.none _ _)));intro v224 w19 ho20 hb hg_ hnew_;clear hg_ hnew_;(first|rw [← Ny223.out] at ho20|(simp only [Int.reduceToNat] at ho20;rw [← Ny223.out] at ho20));have n0_:=Aside0.mk (Kd.R_below (by (with_reducible repeat (first|apply Kd.R_alloc|apply Kd.R_drewN|apply Kd.R_drew));exact HO215.out) hb);have n1_:=Aside0.mk (Kd.R_below (by (with_reducible repeat (first|apply Kd.R_alloc|apply Kd.R_drewN|apply Kd.R_drew));exact HO219.out) hb);have n2_:=Aside0.mk (Kd.N_lower ho20 (below_size (by repeat (first|(with_reducible first|exact HB.out|apply below_alloc|apply pw_below_drewN|apply below_drew1)|exact HB.out))));have n3_:=Aside0.mk (below_step (by repeat (first|(with_reducible first|exact HB.out|apply below_alloc|apply pw_below_drewN|apply below_drew1)|exact HB.out)) hb);clear HO215;clear HO219;clear HB;clear HO222;have HO215:=n0_;have HO219:=n1_;have HO225:=n2_;have HB:=n3_;clear n0_ n1_ n2_ n3_;clear hb ho20))
   go_loopg [10] k (fun kq v10 w'=>∃ (x10_1 : List (List (List Int))),Aside0 (difference_Refute.l0 kq t213 x10_1 = some (r1,r2)) ∧ Aside0 (kq ≤ k) ∧ Aside0 (Kd.R k71 71 w' w.heap.size (fun _=>True) (.slice Ao15 t213.length co15) t213) ∧ Aside0 (Kd.N (Kd.slice 36 (Kd.slice 3 (Kd.int .i64))) 82 w' w.heap.size (fun k_=>some k_ ≠ ((.slice Ao15 t213.length co15) : Value).ownBlock) v10 x10_1) ∧ Aside0 (Below w.heap.size w w'))
   case atStart=>exact ⟨(y223),H',⟨Nat.le_refl _⟩,⟨by (with_reducible repeat (first|apply Kd.R_alloc|apply Kd.R_drewN|apply Kd.R_drew));exact HO215.out⟩,⟨by (with_reducible repeat (first|apply Kd.N_alloc|apply Kd.N_drewN|apply Kd.N_drew));exact Kd.N_mono HO225.out (fun _ hk=>hk.1)⟩,⟨by repeat (first|(with_reducible first|exact HB.out|apply below_alloc|apply pw_below_drewN|apply below_drew1)|exact HB.out)⟩⟩
   case round =>
    clear H'
    try clear c1
    try clear p2
    try clear c4
    try clear c4b0
    try clear c4b1
    try clear c7
    try clear c18
    obtain ⟨x10_1,HA,HK1,HO_7,HO_10,HB⟩:=hrel
    cases gk with
    | zero => exact absurd HA.out (by simp [difference_Refute.l0])
    | succ k1 =>
     have H:=HA.out
     clear HA
     simp only [difference_Refute.l0] at H
     obtain ⟨ji21,hji21⟩ : ∃ j_ : Int,(wrap64 ((x10_1.length : Int) - 1)) = j_:=⟨_,rfl⟩
     replace H : (if 0 ≤ (ji21) then (if (ji21) < (x10_1.length : Int) then ((difference_closed.f k1 (rd_L6 x10_1 (ji21))).bind fun t227=>(if t227 = true then (difference_Refute.l1 k1 t213 x10_1 ([] : List (S55)) (-1) 0 0 (wrap64 ((x10_1.length : Int) - 2))) else ((difference_longer.f k1 (rd_L6 x10_1 (ji21)) t213).bind fun t229=>(if x10_1.length < 5864062014805 then (difference_Refute.l0 k1 t213 (x10_1 ++ [t229])) else (none))))) else (none)) else (none)) = some (r1,r2):=by first|(rw [hji21] at H;exact H)|(simp only [hji21] at H ⊢;exact H)
     have hji21w : (IntKind.i64.wrap ((x10_1.length : Int) - 1)) = ji21:=(i64_w _).trans hji21
     by_cases c22 : 0 ≤ (ji21)
     ·rw [if_pos c22] at H
      have c22b0 : decide (0 ≤ (ji21)) = true:=decide_eq_true c22
      clear c22
      by_cases c23 : (ji21) < (x10_1.length : Int)
      ·rw [if_pos c23] at H
       have c23b0 : decide ((ji21) < (x10_1.length : Int)) = true:=decide_eq_true c23
       clear c23
       replace H:=Option.bind_eq_some_iff.mp H
       obtain ⟨t227,A240,H⟩:=H
       replace H : (if t227 = true then (difference_Refute.l1 k1 t213 x10_1 ([] : List (S55)) (-1) 0 0 (wrap64 ((x10_1.length : Int) - 2))) else ((difference_longer.f k1 (rd_L6 x10_1 (ji21)) t213).bind fun t229=>(if x10_1.length < 5864062014805 then (difference_Refute.l0 k1 t213 (x10_1 ++ [t229])) else (none)))) = some (r1,r2):=H
       have A24:=Aside0.mk A240
       clear A240
       by_cases c25 : t227 = true
       ·subst c25
        have H1 : (difference_Refute.l1 k1 t213 x10_1 ([] : List (S55)) (-1) 0 0 (wrap64 ((x10_1.length : Int) - 2))) = some (r1,r2):=by rw [if_pos rfl] at H;exact H
        clear H
        have H:=H1
        clear H1
        have H':=Aside0.mk H
        clear H
        obtain ⟨Ao26,co26,eo26⟩:=Kd.N_slice HO_10.out
        subst eo26
        have p226 : 0 ≤ ((ji21) : Int):=of_decide_eq_true (by first|(with_reducible assumption)|assumption)
        have q226 : (ji21) < (x10_1.length : Int):=of_decide_eq_true (by first|(with_reducible assumption)|assumption)
        obtain ⟨ad226,A226_0,c226_0,e226,hx226_0,hl226_0,hi226_0⟩:=at_L6 (Kd.N_reads' HO_10.out).2.2 (ji21) p226 q226
        cases e226
        obtain ⟨ce226,hce226,hMe226,hcc226⟩:=Kd.N_get HO_10.out [] (ji21) p226 (by first|exact q226|exact of_decide_eq_true (by first|(with_reducible assumption)|assumption)|(have e_:=(Kd.N_reads' HO_10.out).1;omega))
        obtain ⟨ua226_0,uc226_0,rfl,ul226_0,ge226_0⟩:=Kd.FK_slice_open hMe226
        have hv226_0:=hcc226 0 _ rfl
        rw [Nat.add_zero,show ((Kd.slice 36 (Kd.slice 3 (Kd.int .i64)))).sz = 1 from rfl,Nat.mul_one] at hv226_0
        replace hv226_0:=Option.some.inj (hv226_0.symm.trans hx226_0)
        injection hv226_0 with hva_ hvn_ hvc_
        rw [hva_] at ge226_0
        rw [hvc_] at ul226_0
        have HL226_0:=Aside0.mk (show Kd.V (Kd.slice 3 (Kd.int .i64)) 36 _ w.heap.size _ _ (rd_L6 x10_1 (ji21)) from Kd.V_mk ul226_0 ge226_0)
        clear hva_ hvn_ hvc_ ge226_0 ul226_0
        clear hcc226 hce226
        have HR226_0:=Aside0.mk hi226_0
        have HC226_0:=Aside0.mk hl226_0
        clear hi226_0 hl226_0
        replace p226:=eq_true p226
        replace q226:=eq_true q226
        go_wp2_with (first|(go_at_call 48;(with_reducible refine (difference_closed.calls k1 _ _ (rd_L6 x10_1 (ji21)) true _ ?side1 ?side2 A24.out).mono ?_);(case side1=>repeat (first|exact (by repeat (first|(with_reducible exact HR226_0.out)|(with_reducible refine Kd.C_alloc ?_ _)|(with_reducible refine Kd.C_drewN ?_ _)|(with_reducible refine Kd.C_drew ?_)|exact HR226_0.out))|(with_reducible refine Kd.C_alloc ?_ _)|(with_reducible refine Kd.C_drewN ?_ _)|(with_reducible refine Kd.C_drew ?_)));(case side2=>exact HC226_0.out);rintro e w' ⟨rfl,⟨nd,rfl⟩⟩;(try first|exact ⟨rfl,_,World.drewN_drewN _ _ _⟩|exact ⟨rfl,_,Eq.trans (World.drewN_drewN _ _ _) (congrArg (World.drewN _) (Nat.add_assoc _ _ _))⟩)))
        go_loopg [11,12,13,14,15] k1 (fun kq v11 v12 v13 v14 v15 w'=>∃ (x11_2 : List (S55)) (x12_2 : Int) (x13_2 : Int) (x14_2 : Int) (x15_2 : Int),v12 = .int .i64 x12_2 ∧ v13 = .int .i64 x13_2 ∧ v14 = .int .i64 x14_2 ∧ v15 = .int .i64 x15_2 ∧ Aside0 (difference_Refute.l1 kq t213 x10_1 x11_2 x12_2 x13_2 x14_2 x15_2 = some (r1,r2)) ∧ Aside0 (kq ≤ k1) ∧ Aside0 (Kd.R k71 71 w' w.heap.size (fun _=>True) (.slice Ao15 t213.length co15) t213) ∧ Aside0 (Kd.N (Kd.slice 36 (Kd.slice 3 (Kd.int .i64))) 82 w' w.heap.size (fun k_=>some k_ ≠ ((.slice Ao15 t213.length co15) : Value).ownBlock ∧ some k_ ≠ (v11 : Value).ownBlock) (.slice (some ad226) x10_1.length co26) x10_1) ∧ Aside0 (Kd.R k55 55 w' w.heap.size (fun _=>True) v11 x11_2) ∧ Aside0 (Below w.heap.size w w'))
        case atStart=>exact ⟨(([] : List (S55))),((-1)),(0),(0),(wrap64 ((x10_1.length : Int) - 2)),(by first|rfl|(simp;done)|(simp [*];done)),(by first|rfl|(simp;done)|(simp [*];done)),(by first|rfl|(simp;done)|(simp [*];done)),(by first|rfl|(simp;done)|(simp [*];done)),H',⟨Nat.le_refl _⟩,⟨by (with_reducible repeat (first|apply Kd.R_alloc|apply Kd.R_drewN|apply Kd.R_drew));exact HO_7.out⟩,⟨by (with_reducible repeat (first|apply Kd.N_alloc|apply Kd.N_drewN|apply Kd.N_drew));exact Kd.N_mono HO_10.out (fun _ hk=>⟨hk,(by simp [Value.ownBlock])⟩)⟩,⟨by first|exact Kd.R_nil _ _ _ _ _|exact Kd.N_nil _ _ _ _ _|exact Kd.V_nil _ _ _ _ _|exact Kd.Q_nil _ _ _ _ _|exact Kd.S_nil _ _ _ _ _⟩,⟨by repeat (first|(with_reducible first|exact HB.out|apply below_alloc|apply pw_below_drewN|apply below_drew1)|exact HB.out)⟩⟩
        case round =>
         clear H'
         try clear c1
         try clear c2
         try clear p2
         try clear q2
         try clear hx2
         try clear c4
         try clear c4b0
         try clear c4b1
         try clear p6
         try clear c7
         try clear c18
         try clear c22
         try clear c22b0
         try clear p22
         try clear q22
         try clear hx22
         try clear c23
         try clear c23b0
         try clear c25
         try clear hx226_0
         try clear p2
         try clear p226
         try clear q226
         obtain ⟨x11_2,x12_2,x13_2,x14_2,x15_2,rfl,rfl,rfl,rfl,HA,HK2,HO_7,HO_10,HO_11,HB⟩:=hrel
         cases gk with
         | zero => exact absurd HA.out (by simp [difference_Refute.l1])
         | succ k2 =>
          have H:=HA.out
          clear HA
          simp only [difference_Refute.l1] at H
          by_cases c27 : x15_2 ≥ 0
          ·rw [if_pos c27] at H
           have c27b0 : decide (0 ≤ x15_2) = true:=decide_eq_true c27
           clear c27
           have H':=Aside0.mk H
           clear H
           go_wp2
           go_loopg [11,12,13,14,66] k2 (fun kq v11 v12 v13 v14 v66 w'=>∃ (x11_3 : List (S55)) (x12_3 : Int) (x13_3 : Int) (x14_3 : Int) (x66_3 : Int),v12 = .int .i64 x12_3 ∧ v13 = .int .i64 x13_3 ∧ v14 = .int .i64 x14_3 ∧ v66 = .int .i64 x66_3 ∧ Aside0 (difference_Refute.l2 kq t213 x10_1 x11_3 x12_3 x13_3 x14_3 x15_2 t213 (t213.length : Int) x66_3 = some (r1,r2)) ∧ Aside0 (kq ≤ k2) ∧ Aside0 (Kd.R k71 71 w' w.heap.size (fun _=>True) (.slice Ao15 t213.length co15) t213) ∧ Aside0 (Kd.N (Kd.slice 36 (Kd.slice 3 (Kd.int .i64))) 82 w' w.heap.size (fun k_=>some k_ ≠ ((.slice Ao15 t213.length co15) : Value).ownBlock ∧ some k_ ≠ (v11 : Value).ownBlock ∧ some k_ ≠ ((.slice Ao15 t213.length co15) : Value).ownBlock) (.slice (some ad226) x10_1.length co26) x10_1) ∧ Aside0 (Kd.R k55 55 w' w.heap.size (fun _=>True) v11 x11_3) ∧ Aside0 (Kd.R k71 71 w' w.heap.size (fun _=>True) (.slice Ao15 t213.length co15) t213) ∧ Aside0 (Below w.heap.size w w'))
           case atStart=>exact ⟨(x11_2),(x12_2),(x13_2),(x14_2),(0),(by first|rfl|(simp;done)|(simp [*];done)),(by first|rfl|(simp;done)|(simp [*];done)),(by first|rfl|(simp;done)|(simp [*];done)),(by first|rfl|(simp;done)|(simp [*];done)),H',⟨Nat.le_refl _⟩,⟨by (with_reducible repeat (first|apply Kd.R_alloc|apply Kd.R_drewN|apply Kd.R_drew));exact HO_7.out⟩,⟨by (with_reducible repeat (first|apply Kd.N_alloc|apply Kd.N_drewN|apply Kd.N_drew));exact Kd.N_mono HO_10.out (fun _ hk=>⟨hk.1,⟨hk.2,hk.1⟩⟩)⟩,⟨by (with_reducible repeat (first|apply Kd.R_alloc|apply Kd.R_drewN|apply Kd.R_drew));exact HO_11.out⟩,⟨by (with_reducible repeat (first|apply Kd.R_alloc|apply Kd.R_drewN|apply Kd.R_drew));exact HO_7.out⟩,⟨by repeat (first|(with_reducible first|exact HB.out|apply below_alloc|apply pw_below_drewN|apply below_drew1)|exact HB.out)⟩⟩
           case round =>
            clear H'
            try clear c1
            try clear c2
            try clear p2
            try clear q2
            try clear hx2
            try clear c4
            try clear c4b0
            try clear c4b1
            try clear p6
            try clear c7
            try clear c18
            try clear c22
            try clear c22b0
            try clear p22
            try clear q22
            try clear hx22
            try clear c23
            try clear c23b0
            try clear c25
            try clear c27
            try clear c27b0
            try clear hx226_0
            try clear p2
            try clear p22
            try clear p226
            try clear p6
            try clear q2
            try clear q22
            try clear q226
            obtain ⟨x11_3,x12_3,x13_3,x14_3,x66_3,rfl,rfl,rfl,rfl,HA,HK3,HO_7,HO_10,HO_11,HO_64,HB⟩:=hrel
            cases gk with
            | zero => exact absurd HA.out (by simp [difference_Refute.l2])
            | succ k3 =>
             have H:=HA.out
             clear HA
             simp only [difference_Refute.l2] at H
             by_cases c28 : x66_3 < (t213.length : Int)
             ·rw [if_pos c28] at H
              have c28b0 : decide (x66_3 < (t213.length : Int)) = true:=decide_eq_true c28
              clear c28
              by_cases c29 : 0 ≤ x66_3
              ·rw [if_pos c29] at H
               have c29b0 : decide (0 ≤ x66_3) = true:=decide_eq_true c29
               clear c29
               by_cases c30 : x66_3 < (t213.length : Int)
               ·rw [if_pos c30] at H
                have c30b0 : decide (x66_3 < (t213.length : Int)) = true:=decide_eq_true c30
                clear c30
                have HC31:=Aside0.mk H
                clear H
                have p235 : 0 ≤ (x66_3 : Int):=of_decide_eq_true (by first|(with_reducible assumption)|assumption)
                have q235 : x66_3 < (t213.length : Int):=of_decide_eq_true (by first|(with_reducible assumption)|assumption)
                obtain ⟨ad235,e235,hx235_0,hx235_1,hx235_2,hx235_3,hx235_4⟩:=at_T71 (Kd.R_reads' HO_64.out).2.2 x66_3 p235 q235
                cases e235
                replace p235:=eq_true p235
                replace q235:=eq_true q235
                go_upto_if 72 with (first|((with_reducible refine gate_dst (N:=17) rfl ?_);refine box_event ?hg (N:=17) ?hd (cs:=#[.int .i64 0,.int .i64 0,.int .i64 0,.int .i64 0,.int .i64 0]) (t:=71) ?hr ?_;(case hd=>rfl);(case hg=>rfl);(case hr=>first|(go_simp;done)|(go_simp;rfl));intro gb236 hg w32 hbox hb;have n0_:=Aside0.mk (Kd.R_below (Kd.R_elderB (by (with_reducible repeat (first|apply Kd.R_alloc|apply Kd.R_drewN|apply Kd.R_drew));exact HO_7.out) gb236 (Nat.le_of_eq hg.symm)) hb);have n1_:=Aside0.mk (Kd.N_below (Kd.N_elderB (by (with_reducible repeat (first|apply Kd.N_alloc|apply Kd.N_drewN|apply Kd.N_drew));exact HO_10.out) gb236 (Nat.le_of_eq hg.symm)) hb);have n2_:=Aside0.mk (Kd.R_below (by (with_reducible repeat (first|apply Kd.R_alloc|apply Kd.R_drewN|apply Kd.R_drew));exact HO_11.out) hb);have n3_:=Aside0.mk (Kd.R_below (Kd.R_elderB (by (with_reducible repeat (first|apply Kd.R_alloc|apply Kd.R_drewN|apply Kd.R_drew));exact HO_64.out) gb236 (Nat.le_of_eq hg.symm)) hb);have n4_:=Aside0.mk (below_step (by repeat (first|(with_reducible first|exact HB.out|apply below_alloc|apply pw_below_drewN|apply below_drew1)|exact HB.out)) hb);have n5_:=Aside0.mk (hbox);have n6_:=Aside0.mk ((by rw [hg];exact (below_size (by repeat (first|(with_reducible first|exact HB.out|apply below_alloc|apply pw_below_drewN|apply below_drew1)|exact HB.out))) : w.heap.size ≤ gb236));have n7_:=Aside0.mk ((by rw [hg];exact (below_size (by repeat (first|(with_reducible first|exact HB.out|apply below_alloc|apply pw_below_drewN|apply below_drew1)|exact HB.out))) : w.heap.size ≤ gb236));clear HO_7;clear HO_10;clear HO_11;clear HO_64;clear HB;have HO_7:=n0_;have HO_10:=n1_;have HO_11:=n2_;have HO_64:=n3_;have HB:=n4_;have BK236:=n5_;have GW236:=n6_;have GE236:=n7_;clear n0_ n1_ n2_ n3_ n4_ n5_ n6_ n7_;clear hb hbox hg;have hcz33_0 : w32.cell? ⟨gb236,0,none⟩ = some (.int .i64 0):=(blk_cell BK236.out 0).trans rfl;have hcz33_1 : w32.cell? ⟨gb236,1,none⟩ = some (.int .i64 0):=(blk_cell BK236.out 1).trans rfl;have hcz33_2 : w32.cell? ⟨gb236,2,none⟩ = some (.int .i64 0):=(blk_cell BK236.out 2).trans rfl;have hcz33_3 : w32.cell? ⟨gb236,3,none⟩ = some (.int .i64 0):=(blk_cell BK236.out 3).trans rfl;have hcz33_4 : w32.cell? ⟨gb236,4,none⟩ = some (.int .i64 0):=(blk_cell BK236.out 4).trans rfl;have hfz33_0:=blk_frozen BK236.out 0;have hfz33_1:=blk_frozen BK236.out 1;have hfz33_2:=blk_frozen BK236.out 2;have hfz33_3:=blk_frozen BK236.out 3;have hfz33_4:=blk_frozen BK236.out 4))
                (try simp only [Act.put,List.setIfInBounds_toArray,List.set_cons_zero,List.set_cons_succ])
                go_cut [18] (fun v18 wc=>∃ (kq : Nat) (x18_30 : Int),v18 = .int .i64 x18_30 ∧ Aside0 (difference_Refute.j3 kq t213 x10_1 x11_3 x12_3 x13_3 x14_3 x15_2 x18_30 t213 (t213.length : Int) x66_3 ((rd_T71 t213 x66_3).f0.f0) ((rd_T71 t213 x66_3).f0.f1) ((rd_T71 t213 x66_3).f1) ((rd_T71 t213 x66_3).f2) ((rd_T71 t213 x66_3).f3) = some (r1,r2)) ∧ Aside0 (kq ≤ k3) ∧ Aside0 (Kd.R k71 71 wc w.heap.size (fun k_=>k_ ≠ gb236) (.slice (some ad235) t213.length co15) t213) ∧ Aside0 (Kd.N (Kd.slice 36 (Kd.slice 3 (Kd.int .i64))) 82 wc w.heap.size (fun k_=>some k_ ≠ ((.slice (some ad235) t213.length co15) : Value).ownBlock ∧ some k_ ≠ (u11 : Value).ownBlock ∧ some k_ ≠ ((.slice (some ad235) t213.length co15) : Value).ownBlock ∧ k_ ≠ gb236) (.slice (some ad226) x10_1.length co26) x10_1) ∧ Aside0 (Kd.R k55 55 wc w.heap.size (fun _=>True) u11 x11_3) ∧ Aside0 (Kd.R k71 71 wc w.heap.size (fun k_=>k_ ≠ gb236) (.slice (some ad235) t213.length co15) t213) ∧ Aside0 (wc.heap[gb236]? = some (.cells #[.int .i64 ((rd_T71 t213 x66_3).f0.f0),.int .i64 ((rd_T71 t213 x66_3).f0.f1),.int .i64 ((rd_T71 t213 x66_3).f1),.int .i64 ((rd_T71 t213 x66_3).f2),.int .i64 ((rd_T71 t213 x66_3).f3)] 71 (0,0))) ∧ Aside0 (Below w.heap.size w wc))
                case first =>
                 have H:=HC31.out
                 clear HC31
                 by_cases c34 : x12_3 < 0
                 ·rw [if_pos c34] at H
                  have c34b0 : decide (x12_3 < 0) = true:=decide_eq_true c34
                  clear c34
                  (first|rw [c34b0]|(simp only [i64_w,i32_w];rw [c34b0])|skip)
                  have H':=Aside0.mk H
                  clear H
                  have hcz35_0 : w32.cell? ⟨gb236,0,none⟩ = some (.int .i64 0):=(blk_cell BK236.out 0).trans rfl
                  have hcz35_1 : w32.cell? ⟨gb236,1,none⟩ = some (.int .i64 0):=(blk_cell BK236.out 1).trans rfl
                  have hcz35_2 : w32.cell? ⟨gb236,2,none⟩ = some (.int .i64 0):=(blk_cell BK236.out 2).trans rfl
                  have hcz35_3 : w32.cell? ⟨gb236,3,none⟩ = some (.int .i64 0):=(blk_cell BK236.out 3).trans rfl
                  have hcz35_4 : w32.cell? ⟨gb236,4,none⟩ = some (.int .i64 0):=(blk_cell BK236.out 4).trans rfl
                  have hfz35_0:=blk_frozen BK236.out 0
                  have hfz35_1:=blk_frozen BK236.out 1
                  have hfz35_2:=blk_frozen BK236.out 2
                  have hfz35_3:=blk_frozen BK236.out 3
                  have hfz35_4:=blk_frozen BK236.out 4
                  go_wp2
                  go_meet
                  case rel=>exact ⟨_,((rd_T71 t213 x66_3).f1),(by first|rfl|(simp;done)|(simp [*];done)),H',⟨by have:=HK1.out;have:=HK2.out;have:=HK3.out;first|omega|exact Nat.le_refl _⟩,⟨by (with_reducible repeat (first|apply Kd.R_alloc|apply Kd.R_drewN|apply Kd.R_drew));exact Kd.R_mono (Kd.R_far (p:=⟨gb236,4,none⟩) (Kd.R_far (p:=⟨gb236,3,none⟩) (Kd.R_far (p:=⟨gb236,2,none⟩) (Kd.R_far (p:=⟨gb236,1,none⟩) (Kd.R_far (p:=⟨gb236,0,none⟩) (Kd.R_mono HO_7.out (fun k_ hk=>(⟨hk,hk.2⟩ : _ ∧ k_ ≠ gb236))) (fun _ hk=>hk.2) (.int .i64 ((rd_T71 t213 x66_3).f0.f0))) (fun _ hk=>hk.2) (.int .i64 ((rd_T71 t213 x66_3).f0.f1))) (fun _ hk=>hk.2) (.int .i64 ((rd_T71 t213 x66_3).f1))) (fun _ hk=>hk.2) (.int .i64 ((rd_T71 t213 x66_3).f2))) (fun _ hk=>hk.2) (.int .i64 ((rd_T71 t213 x66_3).f3))) (fun _ hk=>hk.1.2)⟩,⟨by (with_reducible repeat (first|apply Kd.N_alloc|apply Kd.N_drewN|apply Kd.N_drew));exact Kd.N_mono (Kd.N_far (p:=⟨gb236,4,none⟩) (Kd.N_far (p:=⟨gb236,3,none⟩) (Kd.N_far (p:=⟨gb236,2,none⟩) (Kd.N_far (p:=⟨gb236,1,none⟩) (Kd.N_far (p:=⟨gb236,0,none⟩) (Kd.N_mono HO_10.out (fun k_ hk=>(⟨hk,hk.2⟩ : _ ∧ k_ ≠ gb236))) (fun _ hk=>hk.2) (.int .i64 ((rd_T71 t213 x66_3).f0.f0))) (fun _ hk=>hk.2) (.int .i64 ((rd_T71 t213 x66_3).f0.f1))) (fun _ hk=>hk.2) (.int .i64 ((rd_T71 t213 x66_3).f1))) (fun _ hk=>hk.2) (.int .i64 ((rd_T71 t213 x66_3).f2))) (fun _ hk=>hk.2) (.int .i64 ((rd_T71 t213 x66_3).f3))) (fun _ hk=>⟨hk.1.1.1,⟨hk.1.1.2.1,⟨hk.1.1.2.2,hk.1.2⟩⟩⟩)⟩,⟨by (with_reducible repeat (first|apply Kd.R_alloc|apply Kd.R_drewN|apply Kd.R_drew));exact Kd.R_mono (Kd.R_far (p:=⟨gb236,4,none⟩) (Kd.R_far (p:=⟨gb236,3,none⟩) (Kd.R_far (p:=⟨gb236,2,none⟩) (Kd.R_far (p:=⟨gb236,1,none⟩) (Kd.R_far (p:=⟨gb236,0,none⟩) (Kd.R_types HO_11.out BK236.out (by decide)) (fun _ hk=>hk.2) (.int .i64 ((rd_T71 t213 x66_3).f0.f0))) (fun _ hk=>hk.2) (.int .i64 ((rd_T71 t213 x66_3).f0.f1))) (fun _ hk=>hk.2) (.int .i64 ((rd_T71 t213 x66_3).f1))) (fun _ hk=>hk.2) (.int .i64 ((rd_T71 t213 x66_3).f2))) (fun _ hk=>hk.2) (.int .i64 ((rd_T71 t213 x66_3).f3))) (fun _ hk=>trivial)⟩,⟨by (with_reducible repeat (first|apply Kd.R_alloc|apply Kd.R_drewN|apply Kd.R_drew));exact Kd.R_mono (Kd.R_far (p:=⟨gb236,4,none⟩) (Kd.R_far (p:=⟨gb236,3,none⟩) (Kd.R_far (p:=⟨gb236,2,none⟩) (Kd.R_far (p:=⟨gb236,1,none⟩) (Kd.R_far (p:=⟨gb236,0,none⟩) (Kd.R_mono HO_64.out (fun k_ hk=>(⟨hk,hk.2⟩ : _ ∧ k_ ≠ gb236))) (fun _ hk=>hk.2) (.int .i64 ((rd_T71 t213 x66_3).f0.f0))) (fun _ hk=>hk.2) (.int .i64 ((rd_T71 t213 x66_3).f0.f1))) (fun _ hk=>hk.2) (.int .i64 ((rd_T71 t213 x66_3).f1))) (fun _ hk=>hk.2) (.int .i64 ((rd_T71 t213 x66_3).f2))) (fun _ hk=>hk.2) (.int .i64 ((rd_T71 t213 x66_3).f3))) (fun _ hk=>hk.1.2)⟩,⟨by (with_reducible repeat (first|refine blk_drewN ?_ _|refine blk_drew ?_|refine blk_alloc ?_ _));refine blk_put (cs:=#[.int .i64 ((rd_T71 t213 x66_3).f0.f0),.int .i64 ((rd_T71 t213 x66_3).f0.f1),.int .i64 ((rd_T71 t213 x66_3).f1),.int .i64 ((rd_T71 t213 x66_3).f2),.int .i64 0]) ?_ 4 _ rfl;(with_reducible repeat (first|refine blk_drewN ?_ _|refine blk_drew ?_|refine blk_alloc ?_ _));refine blk_put (cs:=#[.int .i64 ((rd_T71 t213 x66_3).f0.f0),.int .i64 ((rd_T71 t213 x66_3).f0.f1),.int .i64 ((rd_T71 t213 x66_3).f1),.int .i64 0,.int .i64 0]) ?_ 3 _ rfl;(with_reducible repeat (first|refine blk_drewN ?_ _|refine blk_drew ?_|refine blk_alloc ?_ _));refine blk_put (cs:=#[.int .i64 ((rd_T71 t213 x66_3).f0.f0),.int .i64 ((rd_T71 t213 x66_3).f0.f1),.int .i64 0,.int .i64 0,.int .i64 0]) ?_ 2 _ rfl;(with_reducible repeat (first|refine blk_drewN ?_ _|refine blk_drew ?_|refine blk_alloc ?_ _));refine blk_put (cs:=#[.int .i64 ((rd_T71 t213 x66_3).f0.f0),.int .i64 0,.int .i64 0,.int .i64 0,.int .i64 0]) ?_ 1 _ rfl;(with_reducible repeat (first|refine blk_drewN ?_ _|refine blk_drew ?_|refine blk_alloc ?_ _));refine blk_put (cs:=#[.int .i64 0,.int .i64 0,.int .i64 0,.int .i64 0,.int .i64 0]) ?_ 0 _ rfl;(with_reducible repeat (first|refine blk_drewN ?_ _|refine blk_drew ?_|refine blk_alloc ?_ _));exact BK236.out⟩,⟨by repeat (first|(with_reducible first|exact HB.out|apply below_alloc|apply pw_below_drewN|apply below_drew1|refine below_set ?_ GE236.out)|exact HB.out)⟩⟩
                 ·rw [if_neg c34] at H
                  have c34b0 : decide (x12_3 < 0) = false:=decide_eq_false c34
                  clear c34
                  (first|rw [c34b0]|(simp only [i64_w,i32_w];rw [c34b0])|skip)
                  by_cases c36 : ((rd_T71 t213 x66_3).f1) = x13_3
                  ·rw [if_pos c36] at H
                   have c36b0 : (((rd_T71 t213 x66_3).f1) == x13_3) = true:=beq_iff_eq.mpr c36
                   have c36b1 : (((rd_T71 t213 x66_3).f1) != x13_3) = false:=bne_eq_false_iff_eq.mpr c36
                   clear c36
                   have H':=Aside0.mk H
                   clear H
                   have hcz37_0 : w32.cell? ⟨gb236,0,none⟩ = some (.int .i64 0):=(blk_cell BK236.out 0).trans rfl
                   have hcz37_1 : w32.cell? ⟨gb236,1,none⟩ = some (.int .i64 0):=(blk_cell BK236.out 1).trans rfl
                   have hcz37_2 : w32.cell? ⟨gb236,2,none⟩ = some (.int .i64 0):=(blk_cell BK236.out 2).trans rfl
                   have hcz37_3 : w32.cell? ⟨gb236,3,none⟩ = some (.int .i64 0):=(blk_cell BK236.out 3).trans rfl
                   have hcz37_4 : w32.cell? ⟨gb236,4,none⟩ = some (.int .i64 0):=(blk_cell BK236.out 4).trans rfl
                   have hfz37_0:=blk_frozen BK236.out 0
                   have hfz37_1:=blk_frozen BK236.out 1
                   have hfz37_2:=blk_frozen BK236.out 2
                   have hfz37_3:=blk_frozen BK236.out 3
                   have hfz37_4:=blk_frozen BK236.out 4
                   go_wp2
                   go_meet
                   case rel=>exact ⟨_,(x12_3),(by first|rfl|(simp;done)|(simp [*];done)),H',⟨by have:=HK1.out;have:=HK2.out;have:=HK3.out;first|omega|exact Nat.le_refl _⟩,⟨by (with_reducible repeat (first|apply Kd.R_alloc|apply Kd.R_drewN|apply Kd.R_drew));exact Kd.R_mono (Kd.R_far (p:=⟨gb236,4,none⟩) (Kd.R_far (p:=⟨gb236,3,none⟩) (Kd.R_far (p:=⟨gb236,2,none⟩) (Kd.R_far (p:=⟨gb236,1,none⟩) (Kd.R_far (p:=⟨gb236,0,none⟩) (Kd.R_mono HO_7.out (fun k_ hk=>(⟨hk,hk.2⟩ : _ ∧ k_ ≠ gb236))) (fun _ hk=>hk.2) (.int .i64 ((rd_T71 t213 x66_3).f0.f0))) (fun _ hk=>hk.2) (.int .i64 ((rd_T71 t213 x66_3).f0.f1))) (fun _ hk=>hk.2) (.int .i64 ((rd_T71 t213 x66_3).f1))) (fun _ hk=>hk.2) (.int .i64 ((rd_T71 t213 x66_3).f2))) (fun _ hk=>hk.2) (.int .i64 ((rd_T71 t213 x66_3).f3))) (fun _ hk=>hk.1.2)⟩,⟨by (with_reducible repeat (first|apply Kd.N_alloc|apply Kd.N_drewN|apply Kd.N_drew));exact Kd.N_mono (Kd.N_far (p:=⟨gb236,4,none⟩) (Kd.N_far (p:=⟨gb236,3,none⟩) (Kd.N_far (p:=⟨gb236,2,none⟩) (Kd.N_far (p:=⟨gb236,1,none⟩) (Kd.N_far (p:=⟨gb236,0,none⟩) (Kd.N_mono HO_10.out (fun k_ hk=>(⟨hk,hk.2⟩ : _ ∧ k_ ≠ gb236))) (fun _ hk=>hk.2) (.int .i64 ((rd_T71 t213 x66_3).f0.f0))) (fun _ hk=>hk.2) (.int .i64 ((rd_T71 t213 x66_3).f0.f1))) (fun _ hk=>hk.2) (.int .i64 ((rd_T71 t213 x66_3).f1))) (fun _ hk=>hk.2) (.int .i64 ((rd_T71 t213 x66_3).f2))) (fun _ hk=>hk.2) (.int .i64 ((rd_T71 t213 x66_3).f3))) (fun _ hk=>⟨hk.1.1.1,⟨hk.1.1.2.1,⟨hk.1.1.2.2,hk.1.2⟩⟩⟩)⟩,⟨by (with_reducible repeat (first|apply Kd.R_alloc|apply Kd.R_drewN|apply Kd.R_drew));exact Kd.R_mono (Kd.R_far (p:=⟨gb236,4,none⟩) (Kd.R_far (p:=⟨gb236,3,none⟩) (Kd.R_far (p:=⟨gb236,2,none⟩) (Kd.R_far (p:=⟨gb236,1,none⟩) (Kd.R_far (p:=⟨gb236,0,none⟩) (Kd.R_types HO_11.out BK236.out (by decide)) (fun _ hk=>hk.2) (.int .i64 ((rd_T71 t213 x66_3).f0.f0))) (fun _ hk=>hk.2) (.int .i64 ((rd_T71 t213 x66_3).f0.f1))) (fun _ hk=>hk.2) (.int .i64 ((rd_T71 t213 x66_3).f1))) (fun _ hk=>hk.2) (.int .i64 ((rd_T71 t213 x66_3).f2))) (fun _ hk=>hk.2) (.int .i64 ((rd_T71 t213 x66_3).f3))) (fun _ hk=>trivial)⟩,⟨by (with_reducible repeat (first|apply Kd.R_alloc|apply Kd.R_drewN|apply Kd.R_drew));exact Kd.R_mono (Kd.R_far (p:=⟨gb236,4,none⟩) (Kd.R_far (p:=⟨gb236,3,none⟩) (Kd.R_far (p:=⟨gb236,2,none⟩) (Kd.R_far (p:=⟨gb236,1,none⟩) (Kd.R_far (p:=⟨gb236,0,none⟩) (Kd.R_mono HO_64.out (fun k_ hk=>(⟨hk,hk.2⟩ : _ ∧ k_ ≠ gb236))) (fun _ hk=>hk.2) (.int .i64 ((rd_T71 t213 x66_3).f0.f0))) (fun _ hk=>hk.2) (.int .i64 ((rd_T71 t213 x66_3).f0.f1))) (fun _ hk=>hk.2) (.int .i64 ((rd_T71 t213 x66_3).f1))) (fun _ hk=>hk.2) (.int .i64 ((rd_T71 t213 x66_3).f2))) (fun _ hk=>hk.2) (.int .i64 ((rd_T71 t213 x66_3).f3))) (fun _ hk=>hk.1.2)⟩,⟨by (with_reducible repeat (first|refine blk_drewN ?_ _|refine blk_drew ?_|refine blk_alloc ?_ _));refine blk_put (cs:=#[.int .i64 ((rd_T71 t213 x66_3).f0.f0),.int .i64 ((rd_T71 t213 x66_3).f0.f1),.int .i64 ((rd_T71 t213 x66_3).f1),.int .i64 ((rd_T71 t213 x66_3).f2),.int .i64 0]) ?_ 4 _ rfl;(with_reducible repeat (first|refine blk_drewN ?_ _|refine blk_drew ?_|refine blk_alloc ?_ _));refine blk_put (cs:=#[.int .i64 ((rd_T71 t213 x66_3).f0.f0),.int .i64 ((rd_T71 t213 x66_3).f0.f1),.int .i64 ((rd_T71 t213 x66_3).f1),.int .i64 0,.int .i64 0]) ?_ 3 _ rfl;(with_reducible repeat (first|refine blk_drewN ?_ _|refine blk_drew ?_|refine blk_alloc ?_ _));refine blk_put (cs:=#[.int .i64 ((rd_T71 t213 x66_3).f0.f0),.int .i64 ((rd_T71 t213 x66_3).f0.f1),.int .i64 0,.int .i64 0,.int .i64 0]) ?_ 2 _ rfl;(with_reducible repeat (first|refine blk_drewN ?_ _|refine blk_drew ?_|refine blk_alloc ?_ _));refine blk_put (cs:=#[.int .i64 ((rd_T71 t213 x66_3).f0.f0),.int .i64 0,.int .i64 0,.int .i64 0,.int .i64 0]) ?_ 1 _ rfl;(with_reducible repeat (first|refine blk_drewN ?_ _|refine blk_drew ?_|refine blk_alloc ?_ _));refine blk_put (cs:=#[.int .i64 0,.int .i64 0,.int .i64 0,.int .i64 0,.int .i64 0]) ?_ 0 _ rfl;(with_reducible repeat (first|refine blk_drewN ?_ _|refine blk_drew ?_|refine blk_alloc ?_ _));exact BK236.out⟩,⟨by repeat (first|(with_reducible first|exact HB.out|apply below_alloc|apply pw_below_drewN|apply below_drew1|refine below_set ?_ GE236.out)|exact HB.out)⟩⟩
                  ·rw [if_neg c36] at H
                   have c36b0 : (((rd_T71 t213 x66_3).f1) == x13_3) = false:=beq_eq_false_iff_ne.mpr c36
                   have c36b1 : (((rd_T71 t213 x66_3).f1) != x13_3) = true:=bne_iff_ne.mpr c36
                   have H':=Aside0.mk H
                   clear H
                   have hcz38_0 : w32.cell? ⟨gb236,0,none⟩ = some (.int .i64 0):=(blk_cell BK236.out 0).trans rfl
                   have hcz38_1 : w32.cell? ⟨gb236,1,none⟩ = some (.int .i64 0):=(blk_cell BK236.out 1).trans rfl
                   have hcz38_2 : w32.cell? ⟨gb236,2,none⟩ = some (.int .i64 0):=(blk_cell BK236.out 2).trans rfl
                   have hcz38_3 : w32.cell? ⟨gb236,3,none⟩ = some (.int .i64 0):=(blk_cell BK236.out 3).trans rfl
                   have hcz38_4 : w32.cell? ⟨gb236,4,none⟩ = some (.int .i64 0):=(blk_cell BK236.out 4).trans rfl
                   have hfz38_0:=blk_frozen BK236.out 0
                   have hfz38_1:=blk_frozen BK236.out 1
                   have hfz38_2:=blk_frozen BK236.out 2
                   have hfz38_3:=blk_frozen BK236.out 3
                   have hfz38_4:=blk_frozen BK236.out 4
                   go_wp2
                   go_roundg k3
                   case measure=>have:=HK1.out;have:=HK2.out;have:=HK3.out;omega
                   case rel=>exact ⟨(x11_3),(x12_3),(x13_3),(x14_3),(wrap64 (x66_3 + 1)),(by first|rfl|(simp;done)|(simp [*];done)),(by first|rfl|(simp;done)|(simp [*];done)),(by first|rfl|(simp;done)|(simp [*];done)),(by first|rfl|(simp;done)|(simp [*];done)),H',⟨by have:=HK1.out;have:=HK2.out;have:=HK3.out;omega⟩,⟨by (with_reducible repeat (first|apply Kd.R_alloc|apply Kd.R_drewN|apply Kd.R_drew));exact Kd.R_mono (Kd.R_far (p:=⟨gb236,4,none⟩) (Kd.R_far (p:=⟨gb236,3,none⟩) (Kd.R_far (p:=⟨gb236,2,none⟩) (Kd.R_far (p:=⟨gb236,1,none⟩) (Kd.R_far (p:=⟨gb236,0,none⟩) (Kd.R_mono HO_7.out (fun k_ hk=>(⟨hk,hk.2⟩ : _ ∧ k_ ≠ gb236))) (fun _ hk=>hk.2) (.int .i64 ((rd_T71 t213 x66_3).f0.f0))) (fun _ hk=>hk.2) (.int .i64 ((rd_T71 t213 x66_3).f0.f1))) (fun _ hk=>hk.2) (.int .i64 ((rd_T71 t213 x66_3).f1))) (fun _ hk=>hk.2) (.int .i64 ((rd_T71 t213 x66_3).f2))) (fun _ hk=>hk.2) (.int .i64 ((rd_T71 t213 x66_3).f3))) (fun _ hk=>trivial)⟩,⟨by (with_reducible repeat (first|apply Kd.N_alloc|apply Kd.N_drewN|apply Kd.N_drew));exact Kd.N_mono (Kd.N_far (p:=⟨gb236,4,none⟩) (Kd.N_far (p:=⟨gb236,3,none⟩) (Kd.N_far (p:=⟨gb236,2,none⟩) (Kd.N_far (p:=⟨gb236,1,none⟩) (Kd.N_far (p:=⟨gb236,0,none⟩) (Kd.N_mono HO_10.out (fun k_ hk=>(⟨hk,hk.2⟩ : _ ∧ k_ ≠ gb236))) (fun _ hk=>hk.2) (.int .i64 ((rd_T71 t213 x66_3).f0.f0))) (fun _ hk=>hk.2) (.int .i64 ((rd_T71 t213 x66_3).f0.f1))) (fun _ hk=>hk.2) (.int .i64 ((rd_T71 t213 x66_3).f1))) (fun _ hk=>hk.2) (.int .i64 ((rd_T71 t213 x66_3).f2))) (fun _ hk=>hk.2) (.int .i64 ((rd_T71 t213 x66_3).f3))) (fun _ hk=>⟨hk.1.1.1,⟨hk.1.1.2.1,hk.1.1.2.2⟩⟩)⟩,⟨by (with_reducible repeat (first|apply Kd.R_alloc|apply Kd.R_drewN|apply Kd.R_drew));exact Kd.R_mono (Kd.R_far (p:=⟨gb236,4,none⟩) (Kd.R_far (p:=⟨gb236,3,none⟩) (Kd.R_far (p:=⟨gb236,2,none⟩) (Kd.R_far (p:=⟨gb236,1,none⟩) (Kd.R_far (p:=⟨gb236,0,none⟩) (Kd.R_types HO_11.out BK236.out (by decide)) (fun _ hk=>hk.2) (.int .i64 ((rd_T71 t213 x66_3).f0.f0))) (fun _ hk=>hk.2) (.int .i64 ((rd_T71 t213 x66_3).f0.f1))) (fun _ hk=>hk.2) (.int .i64 ((rd_T71 t213 x66_3).f1))) (fun _ hk=>hk.2) (.int .i64 ((rd_T71 t213 x66_3).f2))) (fun _ hk=>hk.2) (.int .i64 ((rd_T71 t213 x66_3).f3))) (fun _ hk=>trivial)⟩,⟨by (with_reducible repeat (first|apply Kd.R_alloc|apply Kd.R_drewN|apply Kd.R_drew));exact Kd.R_mono (Kd.R_far (p:=⟨gb236,4,none⟩) (Kd.R_far (p:=⟨gb236,3,none⟩) (Kd.R_far (p:=⟨gb236,2,none⟩) (Kd.R_far (p:=⟨gb236,1,none⟩) (Kd.R_far (p:=⟨gb236,0,none⟩) (Kd.R_mono HO_64.out (fun k_ hk=>(⟨hk,hk.2⟩ : _ ∧ k_ ≠ gb236))) (fun _ hk=>hk.2) (.int .i64 ((rd_T71 t213 x66_3).f0.f0))) (fun _ hk=>hk.2) (.int .i64 ((rd_T71 t213 x66_3).f0.f1))) (fun _ hk=>hk.2) (.int .i64 ((rd_T71 t213 x66_3).f1))) (fun _ hk=>hk.2) (.int .i64 ((rd_T71 t213 x66_3).f2))) (fun _ hk=>hk.2) (.int .i64 ((rd_T71 t213 x66_3).f3))) (fun _ hk=>trivial)⟩,⟨by repeat (first|(with_reducible first|exact HB.out|apply below_alloc|apply pw_below_drewN|apply below_drew1|refine below_set ?_ GE236.out)|exact HB.out)⟩⟩
                case rest =>
                 clear HC31
                 try clear c1
                 try clear c2
                 try clear p2
                 try clear q2
                 try clear hx2
                 try clear c3
                 try clear c4
                 try clear c4b0
                 try clear c4b1
                 try clear p6
                 try clear c7
                 try clear c18
                 try clear c22
                 try clear c22b0
                 try clear p22
                 try clear q22
                 try clear hx22
                 try clear c23
                 try clear c23b0
                 try clear p23
                 try clear q23
                 try clear hx23
                 try clear c25
                 try clear c27
                 try clear c27b0
                 try clear c28
                 try clear c28b0
                 try clear c29
                 try clear c29b0
                 try clear c30
                 try clear c30b0
                 try clear c34
                 try clear c34b0
                 try clear c36
                 try clear c36b0
                 try clear c36b1
                 try clear hcz33_0
                 try clear hcz33_1
                 try clear hcz33_2
                 try clear hcz33_3
                 try clear hcz33_4
                 try clear hcz35_0
                 try clear hcz35_1
                 try clear hcz35_2
                 try clear hcz35_3
                 try clear hcz35_4
                 try clear hcz37_0
                 try clear hcz37_1
                 try clear hcz37_2
                 try clear hcz37_3
                 try clear hcz37_4
                 try clear hcz38_0
                 try clear hcz38_1
                 try clear hcz38_2
                 try clear hcz38_3
                 try clear hcz38_4
                 try clear hfz33_0
                 try clear hfz33_1
                 try clear hfz33_2
                 try clear hfz33_3
                 try clear hfz33_4
                 try clear hfz35_0
                 try clear hfz35_1
                 try clear hfz35_2
                 try clear hfz35_3
                 try clear hfz35_4
                 try clear hfz37_0
                 try clear hfz37_1
                 try clear hfz37_2
                 try clear hfz37_3
                 try clear hfz37_4
                 try clear hfz38_0
                 try clear hfz38_1
                 try clear hfz38_2
                 try clear hfz38_3
                 try clear hfz38_4
                 try clear hx226_0
                 try clear hx235_0
                 try clear hx235_1
                 try clear hx235_2
                 try clear hx235_3
                 try clear hx235_4
                 try clear p2
                 try clear p22
                 try clear p226
                 try clear p235
                 try clear p6
                 try clear q2
                 try clear q22
                 try clear q226
                 try clear q235
                 obtain ⟨kq,x18_30,rfl,HA,HJ30,HO_7,HO_10,HO_11,HO_64,BK236,HB⟩:=hcut
                 cases kq with
                 | zero => exact absurd HA.out (by simp [difference_Refute.j3])
                 | succ kj30 =>
                  have H:=HA.out
                  clear HA
                  simp only [difference_Refute.j3] at H
                  by_cases c39 : 0 ≤ x15_2
                  ·rw [if_pos c39] at H
                   have c39b0 : decide (0 ≤ x15_2) = true:=decide_eq_true c39
                   clear c39
                   by_cases c40 : x15_2 < (x10_1.length : Int)
                   ·rw [if_pos c40] at H
                    have c40b0 : decide (x15_2 < (x10_1.length : Int)) = true:=decide_eq_true c40
                    clear c40
                    by_cases c41 : 0 ≤ ((rd_T71 t213 x66_3).f2)
                    ·rw [if_pos c41] at H
                     have c41b0 : decide (0 ≤ ((rd_T71 t213 x66_3).f2)) = true:=decide_eq_true c41
                     clear c41
                     by_cases c42 : ((rd_T71 t213 x66_3).f2) < ((rd_L6 x10_1 x15_2).length : Int)
                     ·rw [if_pos c42] at H
                      have c42b0 : decide (((rd_T71 t213 x66_3).f2) < ((rd_L6 x10_1 x15_2).length : Int)) = true:=decide_eq_true c42
                      clear c42
                      by_cases c43 : 0 ≤ x18_30
                      ·rw [if_pos c43] at H
                       have c43b0 : decide (0 ≤ x18_30) = true:=decide_eq_true c43
                       clear c43
                       by_cases c44 : x18_30 < ((rd_L5 (rd_L6 x10_1 x15_2) ((rd_T71 t213 x66_3).f2)).length : Int)
                       ·rw [if_pos c44] at H
                        have c44b0 : decide (x18_30 < ((rd_L5 (rd_L6 x10_1 x15_2) ((rd_T71 t213 x66_3).f2)).length : Int)) = true:=decide_eq_true c44
                        clear c44
                        by_cases c45 : (rd (rd_L5 (rd_L6 x10_1 x15_2) ((rd_T71 t213 x66_3).f2)) x18_30) < 1125899906842624
                        ·rw [if_pos c45] at H
                         have c45b0 : decide ((rd (rd_L5 (rd_L6 x10_1 x15_2) ((rd_T71 t213 x66_3).f2)) x18_30) < 1125899906842624) = true:=decide_eq_true c45
                         clear c45
                         by_cases c46 : (wrap64 ((wrap64 (x14_3 + ((rd_T71 t213 x66_3).f3))) + (rd (rd_L5 (rd_L6 x10_1 x15_2) ((rd_T71 t213 x66_3).f2)) x18_30))) < 0
                         ·rw [if_pos c46] at H
                          have c46b0 : decide ((wrap64 ((wrap64 (x14_3 + ((rd_T71 t213 x66_3).f3))) + (rd (rd_L5 (rd_L6 x10_1 x15_2) ((rd_T71 t213 x66_3).f2)) x18_30))) < 0) = true:=decide_eq_true c46
                          clear c46
                          by_cases c47 : x11_3.length < 8796093022208
                          ·rw [if_pos c47] at H
                           have LMc47:=Aside0.mk c47
                           clear c47
                           obtain ⟨y240,hy240⟩ : ∃ y_ : List (S55),y_ = (x11_3 ++ [(⟨((rd_T71 t213 x66_3).f0.f0),((rd_T71 t213 x66_3).f0.f1)⟩ : S55)]):=⟨_,rfl⟩
                           replace H : (difference_Refute.l1 kj30 t213 x10_1 y240 x18_30 ((rd_T71 t213 x66_3).f2) (wrap64 (x14_3 + ((rd_T71 t213 x66_3).f3))) (wrap64 (x15_2 - 1))) = some (r1,r2):=by first|(rw [hy240];with_reducible exact H)|(have H2_:=(Option.bind_some _ _).symm.trans H;rw [hy240];with_reducible exact H2_)|(have H2_:=(Option.bind_some _ _).symm.trans H;with_reducible exact H2_)|with_reducible exact H|(rw [hy240];exact H)|exact H
                           have Ny240:=Aside0.mk hy240
                           clear hy240
                           have H':=Aside0.mk H
                           clear H
                           have p237 : 0 ≤ (x15_2 : Int):=of_decide_eq_true (by first|(with_reducible assumption)|assumption)
                           have q237 : x15_2 < (x10_1.length : Int):=of_decide_eq_true (by first|(with_reducible assumption)|assumption)
                           obtain ⟨ad237,A237_0,c237_0,e237,hx237_0,hl237_0,hi237_0⟩:=at_L6 (Kd.N_reads' HO_10.out).2.2 x15_2 p237 q237
                           obtain rfl : ad226 = ad237:=(by injection e237)
                           obtain ⟨ce237,hce237,hMe237,hcc237⟩:=Kd.N_get HO_10.out [] x15_2 p237 (by first|exact q237|exact of_decide_eq_true (by first|(with_reducible assumption)|assumption)|(have e_:=(Kd.N_reads' HO_10.out).1;omega))
                           obtain ⟨ua237_0,uc237_0,rfl,ul237_0,ge237_0⟩:=Kd.FK_slice_open hMe237
                           have hv237_0:=hcc237 0 _ rfl
                           rw [Nat.add_zero,show ((Kd.slice 36 (Kd.slice 3 (Kd.int .i64)))).sz = 1 from rfl,Nat.mul_one] at hv237_0
                           replace hv237_0:=Option.some.inj (hv237_0.symm.trans hx237_0)
                           injection hv237_0 with hva_ hvn_ hvc_
                           rw [hva_] at ge237_0
                           rw [hvc_] at ul237_0
                           have HL237_0:=Aside0.mk (show Kd.V (Kd.slice 3 (Kd.int .i64)) 36 _ w.heap.size _ _ (rd_L6 x10_1 x15_2) from Kd.V_mk ul237_0 ge237_0)
                           clear hva_ hvn_ hvc_ ge237_0 ul237_0
                           clear hcc237 hce237
                           have HR237_0:=Aside0.mk hi237_0
                           have HC237_0:=Aside0.mk hl237_0
                           clear hi237_0 hl237_0
                           replace p237:=eq_true p237
                           replace q237:=eq_true q237
                           have hcz48_0 : wc.cell? ⟨gb236,0,none⟩ = some (.int .i64 ((rd_T71 t213 x66_3).f0.f0)):=(blk_cell BK236.out 0).trans rfl
                           have hcz48_1 : wc.cell? ⟨gb236,1,none⟩ = some (.int .i64 ((rd_T71 t213 x66_3).f0.f1)):=(blk_cell BK236.out 1).trans rfl
                           have hcz48_2 : wc.cell? ⟨gb236,2,none⟩ = some (.int .i64 ((rd_T71 t213 x66_3).f1)):=(blk_cell BK236.out 2).trans rfl
                           have hcz48_3 : wc.cell? ⟨gb236,3,none⟩ = some (.int .i64 ((rd_T71 t213 x66_3).f2)):=(blk_cell BK236.out 3).trans rfl
                           have hcz48_4 : wc.cell? ⟨gb236,4,none⟩ = some (.int .i64 ((rd_T71 t213 x66_3).f3)):=(blk_cell BK236.out 4).trans rfl
                           have hfz48_0:=blk_frozen BK236.out 0
                           have hfz48_1:=blk_frozen BK236.out 1
                           have hfz48_2:=blk_frozen BK236.out 2
                           have hfz48_3:=blk_frozen BK236.out 3
                           have hfz48_4:=blk_frozen BK236.out 4
                           have p238 : 0 ≤ (((rd_T71 t213 x66_3).f2) : Int):=of_decide_eq_true (by first|(with_reducible assumption)|assumption)
                           have q238 : ((rd_T71 t213 x66_3).f2) < ((rd_L6 x10_1 x15_2).length : Int):=of_decide_eq_true (by first|(with_reducible assumption)|assumption)
                           obtain ⟨ad238,A238_0,c238_0,e238,hx238_0,hl238_0,hi238_0⟩:=at_L5 (by repeat (first|(with_reducible exact HR237_0.out)|(with_reducible refine Kd.C_alloc ?_ _)|(with_reducible refine Kd.C_drewN ?_ _)|(with_reducible refine Kd.C_drew ?_)|exact HR237_0.out)) ((rd_T71 t213 x66_3).f2) p238 q238
                           cases e238
                           obtain ⟨ce238,hce238,hMe238,hcc238⟩:=Kd.V_get HL237_0.out [] ((rd_T71 t213 x66_3).f2) p238 (by first|exact q238|exact of_decide_eq_true (by first|(with_reducible assumption)|assumption)|(have e_:=(Kd.V_reads' HL237_0.out).1;omega))
                           obtain ⟨ua238_0,uc238_0,rfl,ul238_0,ge238_0⟩:=Kd.FK_slice_open hMe238
                           have hv238_0:=hcc238 0 _ rfl
                           rw [Nat.add_zero,show ((Kd.slice 3 (Kd.int .i64))).sz = 1 from rfl,Nat.mul_one] at hv238_0
                           replace hv238_0:=Option.some.inj (hv238_0.symm.trans hx238_0)
                           injection hv238_0 with hva_ hvn_ hvc_
                           rw [hva_] at ge238_0
                           rw [hvc_] at ul238_0
                           have HL238_0:=Aside0.mk (show Kd.V (Kd.int .i64) 3 _ w.heap.size _ _ (rd_L5 (rd_L6 x10_1 x15_2) ((rd_T71 t213 x66_3).f2)) from Kd.V_mk ul238_0 ge238_0)
                           clear hva_ hvn_ hvc_ ge238_0 ul238_0
                           clear hcc238 hce238
                           have HR238_0:=Aside0.mk hi238_0
                           have HC238_0:=Aside0.mk hl238_0
                           clear hi238_0 hl238_0
                           replace p238:=eq_true p238
                           replace q238:=eq_true q238
                           have p239 : 0 ≤ (x18_30 : Int):=of_decide_eq_true (by first|(with_reducible assumption)|assumption)
                           have q239 : x18_30 < ((rd_L5 (rd_L6 x10_1 x15_2) ((rd_T71 t213 x66_3).f2)).length : Int):=of_decide_eq_true (by first|(with_reducible assumption)|assumption)
                           obtain ⟨ad239,e239,hx239_0⟩:=Kd.at_int (by repeat (first|(with_reducible exact HR238_0.out)|(with_reducible refine Kd.C_alloc ?_ _)|(with_reducible refine Kd.C_drewN ?_ _)|(with_reducible refine Kd.C_drew ?_)|exact HR238_0.out)) x18_30 p239 q239
                           cases e239
                           replace p239:=eq_true p239
                           replace q239:=eq_true q239
                           go_wp2_with (first|((with_reducible refine gate_builtin (b:=.append) (xs:=#[.tmp 101,.tmp 104]) rfl ?_);at_builtin;refine Kd.R_append k55 (w0:=w) w.heap.size rfl (.tmp 101) (.tmp 104) 39 55 (.agg #[(.int .i64 0),(.int .i64 0)]) 16 rfl Try.underlying39 info55 rfl (by decide) (by omega) u11 x11_3 (⟨((rd_T71 t213 x66_3).f0.f0),((rd_T71 t213 x66_3).f0.f1)⟩ : S55) [.int .i64 ((rd_T71 t213 x66_3).f0.f0),.int .i64 ((rd_T71 t213 x66_3).f0.f1)] (fun _=>True) (fun _=>False) rfl rfl ?aP (fun _ hk=>hk.elim) ?aF ?aO ?aB ?aS ?aL ?_;(case aP=>exact k55_mkM _ _ _ (⟨((rd_T71 t213 x66_3).f0.f0),((rd_T71 t213 x66_3).f0.f1)⟩ : S55));(case aB=>exact (by repeat (first|(with_reducible first|exact HB.out|apply below_alloc|apply pw_below_drewN|apply below_drew1|refine below_set ?_ GE236.out)|exact HB.out)));(case aF=>exact (fun _ _=>trivial));(case aO=>exact (by (with_reducible repeat (first|apply Kd.R_alloc|apply Kd.R_drewN|apply Kd.R_drew));exact HO_11.out));(case aS=>exact (below_size (by repeat (first|(with_reducible first|exact HB.out|apply below_alloc|apply pw_below_drewN|apply below_drew1|refine below_set ?_ GE236.out)|exact HB.out))));(case aL=>have:=LMc47.out;omega);intro v241 w49 ho hb hg hat;rw [← Ny240.out] at ho;have n0_:=Aside0.mk (Kd.R_over' (by (with_reducible repeat (first|apply Kd.R_alloc|apply Kd.R_drewN|apply Kd.R_drew));exact HO_7.out) (Kd.R_typed (by (with_reducible repeat (first|apply Kd.R_alloc|apply Kd.R_drewN|apply Kd.R_drew));exact HO_11.out)) (by decide) hg);have n1_:=Aside0.mk (Kd.N_afterv (ok:=(fun k_=>some k_ ≠ (.slice (some ad235) t213.length co15 : Value).ownBlock ∧ some k_ ≠ (.slice (some ad235) t213.length co15 : Value).ownBlock ∧ k_ ≠ gb236)) (by (with_reducible repeat (first|apply Kd.N_alloc|apply Kd.N_drewN|apply Kd.N_drew));exact Kd.N_mono HO_10.out (fun _ hk=>⟨⟨hk.1,⟨hk.2.2.1,hk.2.2.2⟩⟩,hk.2.1⟩)) hg hat);have n2_:=Aside0.mk (Kd.R_over' (by (with_reducible repeat (first|apply Kd.R_alloc|apply Kd.R_drewN|apply Kd.R_drew));exact HO_64.out) (Kd.R_typed (by (with_reducible repeat (first|apply Kd.R_alloc|apply Kd.R_drewN|apply Kd.R_drew));exact HO_11.out)) (by decide) hg);have n3_:=Aside0.mk (blk_grown (g:=gb236) (o:=.cells #[.int .i64 ((rd_T71 t213 x66_3).f0.f0),.int .i64 ((rd_T71 t213 x66_3).f0.f1),.int .i64 ((rd_T71 t213 x66_3).f1),.int .i64 ((rd_T71 t213 x66_3).f2),.int .i64 ((rd_T71 t213 x66_3).f3)] 71 (0,0)) (by (with_reducible repeat (first|refine blk_drewN ?_ _|refine blk_drew ?_|refine blk_alloc ?_ _));exact BK236.out) hg (Kd.R_ne HO_11.out BK236.out (by decide)));have n4_:=Aside0.mk (Kd.V_afterv (ok:=(fun k_=>some k_ ≠ (.slice (some ad235) t213.length co15 : Value).ownBlock ∧ some k_ ≠ (.slice (some ad226) x10_1.length co26 : Value).ownBlock ∧ some k_ ≠ (.slice (some ad235) t213.length co15 : Value).ownBlock ∧ k_ ≠ gb236)) (by (with_reducible repeat (first|apply Kd.V_alloc|apply Kd.V_drewN|apply Kd.V_drew));exact Kd.V_mono HL237_0.out (fun _ hk=>⟨⟨hk.1.1,⟨hk.2,⟨hk.1.2.2.1,hk.1.2.2.2⟩⟩⟩,hk.1.2.1⟩)) hg hat);have n5_:=Aside0.mk (Kd.V_afterv (ok:=(fun k_=>some k_ ≠ (.slice (some ad235) t213.length co15 : Value).ownBlock ∧ some k_ ≠ (.slice (some ad226) x10_1.length co26 : Value).ownBlock ∧ some k_ ≠ (.slice (some ad235) t213.length co15 : Value).ownBlock ∧ k_ ≠ gb236)) (by (with_reducible repeat (first|apply Kd.V_alloc|apply Kd.V_drewN|apply Kd.V_drew));exact Kd.V_mono HL238_0.out (fun _ hk=>⟨⟨hk.1.1,⟨hk.2,⟨hk.1.2.2.1,hk.1.2.2.2⟩⟩⟩,hk.1.2.1⟩)) hg hat);have n6_:=Aside0.mk (hb);have n7_:=Aside0.mk (ho);clear HO_7;clear HO_10;clear HO_64;clear BK236;clear HL237_0;clear HL238_0;clear HB;clear HO_11;have HO_7:=n0_;have HO_10:=n1_;have HO_64:=n2_;have BK236:=n3_;have HL237_0:=n4_;have HL238_0:=n5_;have HB:=n6_;have HO242:=n7_;clear n0_ n1_ n2_ n3_ n4_ n5_ n6_ n7_;clear ho hb hg hat;have hcz50_0 : w49.cell? ⟨gb236,0,none⟩ = some (.int .i64 ((rd_T71 t213 x66_3).f0.f0)):=(blk_cell BK236.out 0).trans rfl;have hcz50_1 : w49.cell? ⟨gb236,1,none⟩ = some (.int .i64 ((rd_T71 t213 x66_3).f0.f1)):=(blk_cell BK236.out 1).trans rfl;have hcz50_2 : w49.cell? ⟨gb236,2,none⟩ = some (.int .i64 ((rd_T71 t213 x66_3).f1)):=(blk_cell BK236.out 2).trans rfl;have hcz50_3 : w49.cell? ⟨gb236,3,none⟩ = some (.int .i64 ((rd_T71 t213 x66_3).f2)):=(blk_cell BK236.out 3).trans rfl;have hcz50_4 : w49.cell? ⟨gb236,4,none⟩ = some (.int .i64 ((rd_T71 t213 x66_3).f3)):=(blk_cell BK236.out 4).trans rfl;have hfz50_0:=blk_frozen BK236.out 0;have hfz50_1:=blk_frozen BK236.out 1;have hfz50_2:=blk_frozen BK236.out 2;have hfz50_3:=blk_frozen BK236.out 3;have hfz50_4:=blk_frozen BK236.out 4))
                           repeat (go_quiet (first|((with_reducible refine gate_builtin (b:=.append) (xs:=#[.tmp 101,.tmp 104]) rfl ?_);at_builtin;refine Kd.R_append k55 (w0:=w) w.heap.size rfl (.tmp 101) (.tmp 104) 39 55 (.agg #[(.int .i64 0),(.int .i64 0)]) 16 rfl Try.underlying39 info55 rfl (by decide) (by omega) u11 x11_3 (⟨((rd_T71 t213 x66_3).f0.f0),((rd_T71 t213 x66_3).f0.f1)⟩ : S55) [.int .i64 ((rd_T71 t213 x66_3).f0.f0),.int .i64 ((rd_T71 t213 x66_3).f0.f1)] (fun _=>True) (fun _=>False) rfl rfl ?aP (fun _ hk=>hk.elim) ?aF ?aO ?aB ?aS ?aL ?_;(case aP=>exact k55_mkM _ _ _ (⟨((rd_T71 t213 x66_3).f0.f0),((rd_T71 t213 x66_3).f0.f1)⟩ : S55));(case aB=>exact (by repeat (first|(with_reducible first|exact HB.out|apply below_alloc|apply pw_below_drewN|apply below_drew1|refine below_set ?_ GE236.out)|exact HB.out)));(case aF=>exact (fun _ _=>trivial));(case aO=>exact (by (with_reducible repeat (first|apply Kd.R_alloc|apply Kd.R_drewN|apply Kd.R_drew));exact HO_11.out));(case aS=>exact (below_size (by repeat (first|(with_reducible first|exact HB.out|apply below_alloc|apply pw_below_drewN|apply below_drew1|refine below_set ?_ GE236.out)|exact HB.out))));(case aL=>have:=LMc47.out;omega);intro v241 w49 ho hb hg hat;rw [← Ny240.out] at ho;have n0_:=Aside0.mk (Kd.R_over' (by (with_reducible repeat (first|apply Kd.R_alloc|apply Kd.R_drewN|apply Kd.R_drew));exact HO_7.out) (Kd.R_typed (by (with_reducible repeat (first|apply Kd.R_alloc|apply Kd.R_drewN|apply Kd.R_drew));exact HO_11.out)) (by decide) hg);have n1_:=Aside0.mk (Kd.N_afterv (ok:=(fun k_=>some k_ ≠ (.slice (some ad235) t213.length co15 : Value).ownBlock ∧ some k_ ≠ (.slice (some ad235) t213.length co15 : Value).ownBlock ∧ k_ ≠ gb236)) (by (with_reducible repeat (first|apply Kd.N_alloc|apply Kd.N_drewN|apply Kd.N_drew));exact Kd.N_mono HO_10.out (fun _ hk=>⟨⟨hk.1,⟨hk.2.2.1,hk.2.2.2⟩⟩,hk.2.1⟩)) hg hat);have n2_:=Aside0.mk (Kd.R_over' (by (with_reducible repeat (first|apply Kd.R_alloc|apply Kd.R_drewN|apply Kd.R_drew));exact HO_64.out) (Kd.R_typed (by (with_reducible repeat (first|apply Kd.R_alloc|apply Kd.R_drewN|apply Kd.R_drew));exact HO_11.out)) (by decide) hg);have n3_:=Aside0.mk (blk_grown (g:=gb236) (o:=.cells #[.int .i64 ((rd_T71 t213 x66_3).f0.f0),.int .i64 ((rd_T71 t213 x66_3).f0.f1),.int .i64 ((rd_T71 t213 x66_3).f1),.int .i64 ((rd_T71 t213 x66_3).f2),.int .i64 ((rd_T71 t213 x66_3).f3)] 71 (0,0)) (by (with_reducible repeat (first|refine blk_drewN ?_ _|refine blk_drew ?_|refine blk_alloc ?_ _));exact BK236.out) hg (Kd.R_ne HO_11.out BK236.out (by decide)));have n4_:=Aside0.mk (Kd.V_afterv (ok:=(fun k_=>some k_ ≠ (.slice (some ad235) t213.length co15 : Value).ownBlock ∧ some k_ ≠ (.slice (some ad226) x10_1.length co26 : Value).ownBlock ∧ some k_ ≠ (.slice (some ad235) t213.length co15 : Value).ownBlock ∧ k_ ≠ gb236)) (by (with_reducible repeat (first|apply Kd.V_alloc|apply Kd.V_drewN|apply Kd.V_drew));exact Kd.V_mono HL237_0.out (fun _ hk=>⟨⟨hk.1.1,⟨hk.2,⟨hk.1.2.2.1,hk.1.2.2.2⟩⟩⟩,hk.1.2.1⟩)) hg hat);have n5_:=Aside0.mk (Kd.V_afterv (ok:=(fun k_=>some k_ ≠ (.slice (some ad235) t213.length co15 : Value).ownBlock ∧ some k_ ≠ (.slice (some ad226) x10_1.length co26 : Value).ownBlock ∧ some k_ ≠ (.slice (some ad235) t213.length co15 : Value).ownBlock ∧ k_ ≠ gb236)) (by (with_reducible repeat (first|apply Kd.V_alloc|apply Kd.V_drewN|apply Kd.V_drew));exact Kd.V_mono HL238_0.out (fun _ hk=>⟨⟨hk.1.1,⟨hk.2,⟨hk.1.2.2.1,hk.1.2.2.2⟩⟩⟩,hk.1.2.1⟩)) hg hat);have n6_:=Aside0.mk (hb);have n7_:=Aside0.mk (ho);clear HO_7;clear HO_10;clear HO_64;clear BK236;clear HL237_0;clear HL238_0;clear HB;clear HO_11;have HO_7:=n0_;have HO_10:=n1_;have HO_64:=n2_;have BK236:=n3_;have HL237_0:=n4_;have HL238_0:=n5_;have HB:=n6_;have HO242:=n7_;clear n0_ n1_ n2_ n3_ n4_ n5_ n6_ n7_;clear ho hb hg hat;have hcz50_0 : w49.cell? ⟨gb236,0,none⟩ = some (.int .i64 ((rd_T71 t213 x66_3).f0.f0)):=(blk_cell BK236.out 0).trans rfl;have hcz50_1 : w49.cell? ⟨gb236,1,none⟩ = some (.int .i64 ((rd_T71 t213 x66_3).f0.f1)):=(blk_cell BK236.out 1).trans rfl;have hcz50_2 : w49.cell? ⟨gb236,2,none⟩ = some (.int .i64 ((rd_T71 t213 x66_3).f1)):=(blk_cell BK236.out 2).trans rfl;have hcz50_3 : w49.cell? ⟨gb236,3,none⟩ = some (.int .i64 ((rd_T71 t213 x66_3).f2)):=(blk_cell BK236.out 3).trans rfl;have hcz50_4 : w49.cell? ⟨gb236,4,none⟩ = some (.int .i64 ((rd_T71 t213 x66_3).f3)):=(blk_cell BK236.out 4).trans rfl;have hfz50_0:=blk_frozen BK236.out 0;have hfz50_1:=blk_frozen BK236.out 1;have hfz50_2:=blk_frozen BK236.out 2;have hfz50_3:=blk_frozen BK236.out 3;have hfz50_4:=blk_frozen BK236.out 4));try go_wp2_with (first|((with_reducible refine gate_builtin (b:=.append) (xs:=#[.tmp 101,.tmp 104]) rfl ?_);at_builtin;refine Kd.R_append k55 (w0:=w) w.heap.size rfl (.tmp 101) (.tmp 104) 39 55 (.agg #[(.int .i64 0),(.int .i64 0)]) 16 rfl Try.underlying39 info55 rfl (by decide) (by omega) u11 x11_3 (⟨((rd_T71 t213 x66_3).f0.f0),((rd_T71 t213 x66_3).f0.f1)⟩ : S55) [.int .i64 ((rd_T71 t213 x66_3).f0.f0),.int .i64 ((rd_T71 t213 x66_3).f0.f1)] (fun _=>True) (fun _=>False) rfl rfl ?aP (fun _ hk=>hk.elim) ?aF ?aO ?aB ?aS ?aL ?_;(case aP=>exact k55_mkM _ _ _ (⟨((rd_T71 t213 x66_3).f0.f0),((rd_T71 t213 x66_3).f0.f1)⟩ : S55));(case aB=>exact (by repeat (first|(with_reducible first|exact HB.out|apply below_alloc|apply pw_below_drewN|apply below_drew1|refine below_set ?_ GE236.out)|exact HB.out)));(case aF=>exact (fun _ _=>trivial));(case aO=>exact (by (with_reducible repeat (first|apply Kd.R_alloc|apply Kd.R_drewN|apply Kd.R_drew));exact HO_11.out));(case aS=>exact (below_size (by repeat (first|(with_reducible first|exact HB.out|apply below_alloc|apply pw_below_drewN|apply below_drew1|refine below_set ?_ GE236.out)|exact HB.out))));(case aL=>have:=LMc47.out;omega);intro v241 w49 ho hb hg hat;rw [← Ny240.out] at ho;have n0_:=Aside0.mk (Kd.R_over' (by (with_reducible repeat (first|apply Kd.R_alloc|apply Kd.R_drewN|apply Kd.R_drew));exact HO_7.out) (Kd.R_typed (by (with_reducible repeat (first|apply Kd.R_alloc|apply Kd.R_drewN|apply Kd.R_drew));exact HO_11.out)) (by decide) hg);have n1_:=Aside0.mk (Kd.N_afterv (ok:=(fun k_=>some k_ ≠ (.slice (some ad235) t213.length co15 : Value).ownBlock ∧ some k_ ≠ (.slice (some ad235) t213.length co15 : Value).ownBlock ∧ k_ ≠ gb236)) (by (with_reducible repeat (first|apply Kd.N_alloc|apply Kd.N_drewN|apply Kd.N_drew));exact Kd.N_mono HO_10.out (fun _ hk=>⟨⟨hk.1,⟨hk.2.2.1,hk.2.2.2⟩⟩,hk.2.1⟩)) hg hat);have n2_:=Aside0.mk (Kd.R_over' (by (with_reducible repeat (first|apply Kd.R_alloc|apply Kd.R_drewN|apply Kd.R_drew));exact HO_64.out) (Kd.R_typed (by (with_reducible repeat (first|apply Kd.R_alloc|apply Kd.R_drewN|apply Kd.R_drew));exact HO_11.out)) (by decide) hg);have n3_:=Aside0.mk (blk_grown (g:=gb236) (o:=.cells #[.int .i64 ((rd_T71 t213 x66_3).f0.f0),.int .i64 ((rd_T71 t213 x66_3).f0.f1),.int .i64 ((rd_T71 t213 x66_3).f1),.int .i64 ((rd_T71 t213 x66_3).f2),.int .i64 ((rd_T71 t213 x66_3).f3)] 71 (0,0)) (by (with_reducible repeat (first|refine blk_drewN ?_ _|refine blk_drew ?_|refine blk_alloc ?_ _));exact BK236.out) hg (Kd.R_ne HO_11.out BK236.out (by decide)));have n4_:=Aside0.mk (Kd.V_afterv (ok:=(fun k_=>some k_ ≠ (.slice (some ad235) t213.length co15 : Value).ownBlock ∧ some k_ ≠ (.slice (some ad226) x10_1.length co26 : Value).ownBlock ∧ some k_ ≠ (.slice (some ad235) t213.length co15 : Value).ownBlock ∧ k_ ≠ gb236)) (by (with_reducible repeat (first|apply Kd.V_alloc|apply Kd.V_drewN|apply Kd.V_drew));exact Kd.V_mono HL237_0.out (fun _ hk=>⟨⟨hk.1.1,⟨hk.2,⟨hk.1.2.2.1,hk.1.2.2.2⟩⟩⟩,hk.1.2.1⟩)) hg hat);have n5_:=Aside0.mk (Kd.V_afterv (ok:=(fun k_=>some k_ ≠ (.slice (some ad235) t213.length co15 : Value).ownBlock ∧ some k_ ≠ (.slice (some ad226) x10_1.length co26 : Value).ownBlock ∧ some k_ ≠ (.slice (some ad235) t213.length co15 : Value).ownBlock ∧ k_ ≠ gb236)) (by (with_reducible repeat (first|apply Kd.V_alloc|apply Kd.V_drewN|apply Kd.V_drew));exact Kd.V_mono HL238_0.out (fun _ hk=>⟨⟨hk.1.1,⟨hk.2,⟨hk.1.2.2.1,hk.1.2.2.2⟩⟩⟩,hk.1.2.1⟩)) hg hat);have n6_:=Aside0.mk (hb);have n7_:=Aside0.mk (ho);clear HO_7;clear HO_10;clear HO_64;clear BK236;clear HL237_0;clear HL238_0;clear HB;clear HO_11;have HO_7:=n0_;have HO_10:=n1_;have HO_64:=n2_;have BK236:=n3_;have HL237_0:=n4_;have HL238_0:=n5_;have HB:=n6_;have HO242:=n7_;clear n0_ n1_ n2_ n3_ n4_ n5_ n6_ n7_;clear ho hb hg hat;have hcz50_0 : w49.cell? ⟨gb236,0,none⟩ = some (.int .i64 ((rd_T71 t213 x66_3).f0.f0)):=(blk_cell BK236.out 0).trans rfl;have hcz50_1 : w49.cell? ⟨gb236,1,none⟩ = some (.int .i64 ((rd_T71 t213 x66_3).f0.f1)):=(blk_cell BK236.out 1).trans rfl;have hcz50_2 : w49.cell? ⟨gb236,2,none⟩ = some (.int .i64 ((rd_T71 t213 x66_3).f1)):=(blk_cell BK236.out 2).trans rfl;have hcz50_3 : w49.cell? ⟨gb236,3,none⟩ = some (.int .i64 ((rd_T71 t213 x66_3).f2)):=(blk_cell BK236.out 3).trans rfl;have hcz50_4 : w49.cell? ⟨gb236,4,none⟩ = some (.int .i64 ((rd_T71 t213 x66_3).f3)):=(blk_cell BK236.out 4).trans rfl;have hfz50_0:=blk_frozen BK236.out 0;have hfz50_1:=blk_frozen BK236.out 1;have hfz50_2:=blk_frozen BK236.out 2;have hfz50_3:=blk_frozen BK236.out 3;have hfz50_4:=blk_frozen BK236.out 4)))
                           go_roundg kj30
                           case measure=>have:=HK1.out;have:=HK2.out;have:=HK3.out;have:=HJ30.out;omega
                           case rel=>exact ⟨(y240),(x18_30),(((rd_T71 t213 x66_3).f2)),(wrap64 (x14_3 + ((rd_T71 t213 x66_3).f3))),(wrap64 (x15_2 - 1)),(by first|rfl|(simp;done)|(simp [*];done)),(by first|rfl|(simp;done)|(simp [*];done)),(by first|rfl|(simp;done)|(simp [*];done)),(by first|rfl|(simp;done)|(simp [*];done)),H',⟨by have:=HK1.out;have:=HK2.out;have:=HK3.out;have:=HJ30.out;omega⟩,⟨by (with_reducible repeat (first|apply Kd.R_alloc|apply Kd.R_drewN|apply Kd.R_drew));exact Kd.R_mono HO_7.out (fun _ hk=>trivial)⟩,⟨by (with_reducible repeat (first|apply Kd.N_alloc|apply Kd.N_drewN|apply Kd.N_drew));exact Kd.N_mono HO_10.out (fun _ hk=>⟨hk.1.1,hk.2⟩)⟩,⟨by (with_reducible repeat (first|apply Kd.R_alloc|apply Kd.R_drewN|apply Kd.R_drew));exact HO242.out⟩,⟨by repeat (first|(with_reducible first|exact HB.out|apply below_alloc|apply pw_below_drewN|apply below_drew1|refine below_set ?_ GE236.out)|exact HB.out)⟩⟩
                          ·rw [if_neg c47] at H
                           exact absurd H (by simp)
                         ·rw [if_neg c46] at H
                          have c46b0 : decide ((wrap64 ((wrap64 (x14_3 + ((rd_T71 t213 x66_3).f3))) + (rd (rd_L5 (rd_L6 x10_1 x15_2) ((rd_T71 t213 x66_3).f2)) x18_30))) < 0) = false:=decide_eq_false c46
                          clear c46
                          have H':=Aside0.mk H
                          clear H
                          have p237 : 0 ≤ (x15_2 : Int):=of_decide_eq_true (by first|(with_reducible assumption)|assumption)
                          have q237 : x15_2 < (x10_1.length : Int):=of_decide_eq_true (by first|(with_reducible assumption)|assumption)
                          obtain ⟨ad237,A237_0,c237_0,e237,hx237_0,hl237_0,hi237_0⟩:=at_L6 (Kd.N_reads' HO_10.out).2.2 x15_2 p237 q237
                          obtain rfl : ad226 = ad237:=(by injection e237)
                          obtain ⟨ce237,hce237,hMe237,hcc237⟩:=Kd.N_get HO_10.out [] x15_2 p237 (by first|exact q237|exact of_decide_eq_true (by first|(with_reducible assumption)|assumption)|(have e_:=(Kd.N_reads' HO_10.out).1;omega))
                          obtain ⟨ua237_0,uc237_0,rfl,ul237_0,ge237_0⟩:=Kd.FK_slice_open hMe237
                          have hv237_0:=hcc237 0 _ rfl
                          rw [Nat.add_zero,show ((Kd.slice 36 (Kd.slice 3 (Kd.int .i64)))).sz = 1 from rfl,Nat.mul_one] at hv237_0
                          replace hv237_0:=Option.some.inj (hv237_0.symm.trans hx237_0)
                          injection hv237_0 with hva_ hvn_ hvc_
                          rw [hva_] at ge237_0
                          rw [hvc_] at ul237_0
                          have HL237_0:=Aside0.mk (show Kd.V (Kd.slice 3 (Kd.int .i64)) 36 _ w.heap.size _ _ (rd_L6 x10_1 x15_2) from Kd.V_mk ul237_0 ge237_0)
                          clear hva_ hvn_ hvc_ ge237_0 ul237_0
                          clear hcc237 hce237
                          have HR237_0:=Aside0.mk hi237_0
                          have HC237_0:=Aside0.mk hl237_0
                          clear hi237_0 hl237_0
                          replace p237:=eq_true p237
                          replace q237:=eq_true q237
                          have hcz51_0 : wc.cell? ⟨gb236,0,none⟩ = some (.int .i64 ((rd_T71 t213 x66_3).f0.f0)):=(blk_cell BK236.out 0).trans rfl
                          have hcz51_1 : wc.cell? ⟨gb236,1,none⟩ = some (.int .i64 ((rd_T71 t213 x66_3).f0.f1)):=(blk_cell BK236.out 1).trans rfl
                          have hcz51_2 : wc.cell? ⟨gb236,2,none⟩ = some (.int .i64 ((rd_T71 t213 x66_3).f1)):=(blk_cell BK236.out 2).trans rfl
                          have hcz51_3 : wc.cell? ⟨gb236,3,none⟩ = some (.int .i64 ((rd_T71 t213 x66_3).f2)):=(blk_cell BK236.out 3).trans rfl
                          have hcz51_4 : wc.cell? ⟨gb236,4,none⟩ = some (.int .i64 ((rd_T71 t213 x66_3).f3)):=(blk_cell BK236.out 4).trans rfl
                          have hfz51_0:=blk_frozen BK236.out 0
                          have hfz51_1:=blk_frozen BK236.out 1
                          have hfz51_2:=blk_frozen BK236.out 2
                          have hfz51_3:=blk_frozen BK236.out 3
                          have hfz51_4:=blk_frozen BK236.out 4
                          have p238 : 0 ≤ (((rd_T71 t213 x66_3).f2) : Int):=of_decide_eq_true (by first|(with_reducible assumption)|assumption)
                          have q238 : ((rd_T71 t213 x66_3).f2) < ((rd_L6 x10_1 x15_2).length : Int):=of_decide_eq_true (by first|(with_reducible assumption)|assumption)
                          obtain ⟨ad238,A238_0,c238_0,e238,hx238_0,hl238_0,hi238_0⟩:=at_L5 (by repeat (first|(with_reducible exact HR237_0.out)|(with_reducible refine Kd.C_alloc ?_ _)|(with_reducible refine Kd.C_drewN ?_ _)|(with_reducible refine Kd.C_drew ?_)|exact HR237_0.out)) ((rd_T71 t213 x66_3).f2) p238 q238
                          cases e238
                          obtain ⟨ce238,hce238,hMe238,hcc238⟩:=Kd.V_get HL237_0.out [] ((rd_T71 t213 x66_3).f2) p238 (by first|exact q238|exact of_decide_eq_true (by first|(with_reducible assumption)|assumption)|(have e_:=(Kd.V_reads' HL237_0.out).1;omega))
                          obtain ⟨ua238_0,uc238_0,rfl,ul238_0,ge238_0⟩:=Kd.FK_slice_open hMe238
                          have hv238_0:=hcc238 0 _ rfl
                          rw [Nat.add_zero,show ((Kd.slice 3 (Kd.int .i64))).sz = 1 from rfl,Nat.mul_one] at hv238_0
                          replace hv238_0:=Option.some.inj (hv238_0.symm.trans hx238_0)
                          injection hv238_0 with hva_ hvn_ hvc_
                          rw [hva_] at ge238_0
                          rw [hvc_] at ul238_0
                          have HL238_0:=Aside0.mk (show Kd.V (Kd.int .i64) 3 _ w.heap.size _ _ (rd_L5 (rd_L6 x10_1 x15_2) ((rd_T71 t213 x66_3).f2)) from Kd.V_mk ul238_0 ge238_0)
                          clear hva_ hvn_ hvc_ ge238_0 ul238_0
                          clear hcc238 hce238
                          have HR238_0:=Aside0.mk hi238_0
                          have HC238_0:=Aside0.mk hl238_0
                          clear hi238_0 hl238_0
                          replace p238:=eq_true p238
                          replace q238:=eq_true q238
                          have p239 : 0 ≤ (x18_30 : Int):=of_decide_eq_true (by first|(with_reducible assumption)|assumption)
                          have q239 : x18_30 < ((rd_L5 (rd_L6 x10_1 x15_2) ((rd_T71 t213 x66_3).f2)).length : Int):=of_decide_eq_true (by first|(with_reducible assumption)|assumption)
                          obtain ⟨ad239,e239,hx239_0⟩:=Kd.at_int (by repeat (first|(with_reducible exact HR238_0.out)|(with_reducible refine Kd.C_alloc ?_ _)|(with_reducible refine Kd.C_drewN ?_ _)|(with_reducible refine Kd.C_drew ?_)|exact HR238_0.out)) x18_30 p239 q239
                          cases e239
                          replace p239:=eq_true p239
                          replace q239:=eq_true q239
                          go_wp2
                          repeat (go_quiet (fail);try go_wp2)
                          go_roundg kj30
                          case measure=>have:=HK1.out;have:=HK2.out;have:=HK3.out;have:=HJ30.out;omega
                          case rel=>exact ⟨(x11_3),(x12_3),(x13_3),(x14_3),(wrap64 (x66_3 + 1)),(by first|rfl|(simp;done)|(simp [*];done)),(by first|rfl|(simp;done)|(simp [*];done)),(by first|rfl|(simp;done)|(simp [*];done)),(by first|rfl|(simp;done)|(simp [*];done)),H',⟨by have:=HK1.out;have:=HK2.out;have:=HK3.out;have:=HJ30.out;omega⟩,⟨by (with_reducible repeat (first|apply Kd.R_alloc|apply Kd.R_drewN|apply Kd.R_drew));exact Kd.R_mono HO_7.out (fun _ hk=>trivial)⟩,⟨by (with_reducible repeat (first|apply Kd.N_alloc|apply Kd.N_drewN|apply Kd.N_drew));exact Kd.N_mono HO_10.out (fun _ hk=>⟨hk.1,⟨hk.2.1,hk.2.2.1⟩⟩)⟩,⟨by (with_reducible repeat (first|apply Kd.R_alloc|apply Kd.R_drewN|apply Kd.R_drew));exact HO_11.out⟩,⟨by (with_reducible repeat (first|apply Kd.R_alloc|apply Kd.R_drewN|apply Kd.R_drew));exact Kd.R_mono HO_64.out (fun _ hk=>trivial)⟩,⟨by repeat (first|(with_reducible first|exact HB.out|apply below_alloc|apply pw_below_drewN|apply below_drew1|refine below_set ?_ GE236.out)|exact HB.out)⟩⟩
                        ·rw [if_neg c45] at H
                         have c45b0 : decide ((rd (rd_L5 (rd_L6 x10_1 x15_2) ((rd_T71 t213 x66_3).f2)) x18_30) < 1125899906842624) = false:=decide_eq_false c45
                         clear c45
                         have H':=Aside0.mk H
                         clear H
                         have p237 : 0 ≤ (x15_2 : Int):=of_decide_eq_true (by first|(with_reducible assumption)|assumption)
                         have q237 : x15_2 < (x10_1.length : Int):=of_decide_eq_true (by first|(with_reducible assumption)|assumption)
                         obtain ⟨ad237,A237_0,c237_0,e237,hx237_0,hl237_0,hi237_0⟩:=at_L6 (Kd.N_reads' HO_10.out).2.2 x15_2 p237 q237
                         obtain rfl : ad226 = ad237:=(by injection e237)
                         obtain ⟨ce237,hce237,hMe237,hcc237⟩:=Kd.N_get HO_10.out [] x15_2 p237 (by first|exact q237|exact of_decide_eq_true (by first|(with_reducible assumption)|assumption)|(have e_:=(Kd.N_reads' HO_10.out).1;omega))
                         obtain ⟨ua237_0,uc237_0,rfl,ul237_0,ge237_0⟩:=Kd.FK_slice_open hMe237
                         have hv237_0:=hcc237 0 _ rfl
                         rw [Nat.add_zero,show ((Kd.slice 36 (Kd.slice 3 (Kd.int .i64)))).sz = 1 from rfl,Nat.mul_one] at hv237_0
                         replace hv237_0:=Option.some.inj (hv237_0.symm.trans hx237_0)
                         injection hv237_0 with hva_ hvn_ hvc_
                         rw [hva_] at ge237_0
                         rw [hvc_] at ul237_0
                         have HL237_0:=Aside0.mk (show Kd.V (Kd.slice 3 (Kd.int .i64)) 36 _ w.heap.size _ _ (rd_L6 x10_1 x15_2) from Kd.V_mk ul237_0 ge237_0)
                         clear hva_ hvn_ hvc_ ge237_0 ul237_0
                         clear hcc237 hce237
                         have HR237_0:=Aside0.mk hi237_0
                         have HC237_0:=Aside0.mk hl237_0
                         clear hi237_0 hl237_0
                         replace p237:=eq_true p237
                         replace q237:=eq_true q237
                         have hcz52_0 : wc.cell? ⟨gb236,0,none⟩ = some (.int .i64 ((rd_T71 t213 x66_3).f0.f0)):=(blk_cell BK236.out 0).trans rfl
                         have hcz52_1 : wc.cell? ⟨gb236,1,none⟩ = some (.int .i64 ((rd_T71 t213 x66_3).f0.f1)):=(blk_cell BK236.out 1).trans rfl
                         have hcz52_2 : wc.cell? ⟨gb236,2,none⟩ = some (.int .i64 ((rd_T71 t213 x66_3).f1)):=(blk_cell BK236.out 2).trans rfl
                         have hcz52_3 : wc.cell? ⟨gb236,3,none⟩ = some (.int .i64 ((rd_T71 t213 x66_3).f2)):=(blk_cell BK236.out 3).trans rfl
                         have hcz52_4 : wc.cell? ⟨gb236,4,none⟩ = some (.int .i64 ((rd_T71 t213 x66_3).f3)):=(blk_cell BK236.out 4).trans rfl
                         have hfz52_0:=blk_frozen BK236.out 0
                         have hfz52_1:=blk_frozen BK236.out 1
                         have hfz52_2:=blk_frozen BK236.out 2
                         have hfz52_3:=blk_frozen BK236.out 3
                         have hfz52_4:=blk_frozen BK236.out 4
                         have p238 : 0 ≤ (((rd_T71 t213 x66_3).f2) : Int):=of_decide_eq_true (by first|(with_reducible assumption)|assumption)
                         have q238 : ((rd_T71 t213 x66_3).f2) < ((rd_L6 x10_1 x15_2).length : Int):=of_decide_eq_true (by first|(with_reducible assumption)|assumption)
                         obtain ⟨ad238,A238_0,c238_0,e238,hx238_0,hl238_0,hi238_0⟩:=at_L5 (by repeat (first|(with_reducible exact HR237_0.out)|(with_reducible refine Kd.C_alloc ?_ _)|(with_reducible refine Kd.C_drewN ?_ _)|(with_reducible refine Kd.C_drew ?_)|exact HR237_0.out)) ((rd_T71 t213 x66_3).f2) p238 q238
                         cases e238
                         obtain ⟨ce238,hce238,hMe238,hcc238⟩:=Kd.V_get HL237_0.out [] ((rd_T71 t213 x66_3).f2) p238 (by first|exact q238|exact of_decide_eq_true (by first|(with_reducible assumption)|assumption)|(have e_:=(Kd.V_reads' HL237_0.out).1;omega))
                         obtain ⟨ua238_0,uc238_0,rfl,ul238_0,ge238_0⟩:=Kd.FK_slice_open hMe238
                         have hv238_0:=hcc238 0 _ rfl
                         rw [Nat.add_zero,show ((Kd.slice 3 (Kd.int .i64))).sz = 1 from rfl,Nat.mul_one] at hv238_0
                         replace hv238_0:=Option.some.inj (hv238_0.symm.trans hx238_0)
                         injection hv238_0 with hva_ hvn_ hvc_
                         rw [hva_] at ge238_0
                         rw [hvc_] at ul238_0
                         have HL238_0:=Aside0.mk (show Kd.V (Kd.int .i64) 3 _ w.heap.size _ _ (rd_L5 (rd_L6 x10_1 x15_2) ((rd_T71 t213 x66_3).f2)) from Kd.V_mk ul238_0 ge238_0)
                         clear hva_ hvn_ hvc_ ge238_0 ul238_0
                         clear hcc238 hce238
                         have HR238_0:=Aside0.mk hi238_0
                         have HC238_0:=Aside0.mk hl238_0
                         clear hi238_0 hl238_0
                         replace p238:=eq_true p238
                         replace q238:=eq_true q238
                         have p239 : 0 ≤ (x18_30 : Int):=of_decide_eq_true (by first|(with_reducible assumption)|assumption)
                         have q239 : x18_30 < ((rd_L5 (rd_L6 x10_1 x15_2) ((rd_T71 t213 x66_3).f2)).length : Int):=of_decide_eq_true (by first|(with_reducible assumption)|assumption)
                         obtain ⟨ad239,e239,hx239_0⟩:=Kd.at_int (by repeat (first|(with_reducible exact HR238_0.out)|(with_reducible refine Kd.C_alloc ?_ _)|(with_reducible refine Kd.C_drewN ?_ _)|(with_reducible refine Kd.C_drew ?_)|exact HR238_0.out)) x18_30 p239 q239
                         cases e239
                         replace p239:=eq_true p239
                         replace q239:=eq_true q239
                         go_wp2
                         repeat (go_quiet (fail);try go_wp2)
                         go_roundg kj30
                         case measure=>have:=HK1.out;have:=HK2.out;have:=HK3.out;have:=HJ30.out;omega
                         case rel=>exact ⟨(x11_3),(x12_3),(x13_3),(x14_3),(wrap64 (x66_3 + 1)),(by first|rfl|(simp;done)|(simp [*];done)),(by first|rfl|(simp;done)|(simp [*];done)),(by first|rfl|(simp;done)|(simp [*];done)),(by first|rfl|(simp;done)|(simp [*];done)),H',⟨by have:=HK1.out;have:=HK2.out;have:=HK3.out;have:=HJ30.out;omega⟩,⟨by (with_reducible repeat (first|apply Kd.R_alloc|apply Kd.R_drewN|apply Kd.R_drew));exact Kd.R_mono HO_7.out (fun _ hk=>trivial)⟩,⟨by (with_reducible repeat (first|apply Kd.N_alloc|apply Kd.N_drewN|apply Kd.N_drew));exact Kd.N_mono HO_10.out (fun _ hk=>⟨hk.1,⟨hk.2.1,hk.2.2.1⟩⟩)⟩,⟨by (with_reducible repeat (first|apply Kd.R_alloc|apply Kd.R_drewN|apply Kd.R_drew));exact HO_11.out⟩,⟨by (with_reducible repeat (first|apply Kd.R_alloc|apply Kd.R_drewN|apply Kd.R_drew));exact Kd.R_mono HO_64.out (fun _ hk=>trivial)⟩,⟨by repeat (first|(with_reducible first|exact HB.out|apply below_alloc|apply pw_below_drewN|apply below_drew1|refine below_set ?_ GE236.out)|exact HB.out)⟩⟩
                       ·rw [if_neg c44] at H
                        exact absurd H (by simp)
                      ·rw [if_neg c43] at H
                       exact absurd H (by simp)
                     ·rw [if_neg c42] at H
                      exact absurd H (by simp)
                    ·rw [if_neg c41] at H
                     exact absurd H (by simp)
                   ·rw [if_neg c40] at H
                    exact absurd H (by simp)
                  ·rw [if_neg c39] at H
                   exact absurd H (by simp)
               ·rw [if_neg c30] at H
                exact absurd H (by simp)
              ·rw [if_neg c29] at H
               exact absurd H (by simp)
             ·rw [if_neg c28] at H
              have c28b0 : decide (x66_3 < (t213.length : Int)) = false:=decide_eq_false c28
              clear c28
              have H':=Aside0.mk H
              clear H
              go_wp2
              go_roundg k3
              case measure=>have:=HK1.out;have:=HK2.out;have:=HK3.out;omega
              case rel=>exact ⟨(x11_3),(x12_3),(x13_3),(x14_3),(wrap64 (x15_2 - 1)),(by first|rfl|(simp;done)|(simp [*];done)),(by first|rfl|(simp;done)|(simp [*];done)),(by first|rfl|(simp;done)|(simp [*];done)),(by first|rfl|(simp;done)|(simp [*];done)),H',⟨by have:=HK1.out;have:=HK2.out;have:=HK3.out;omega⟩,⟨by (with_reducible repeat (first|apply Kd.R_alloc|apply Kd.R_drewN|apply Kd.R_drew));exact HO_7.out⟩,⟨by (with_reducible repeat (first|apply Kd.N_alloc|apply Kd.N_drewN|apply Kd.N_drew));exact Kd.N_mono HO_10.out (fun _ hk=>⟨hk.1,hk.2.1⟩)⟩,⟨by (with_reducible repeat (first|apply Kd.R_alloc|apply Kd.R_drewN|apply Kd.R_drew));exact HO_11.out⟩,⟨by repeat (first|(with_reducible first|exact HB.out|apply below_alloc|apply pw_below_drewN|apply below_drew1)|exact HB.out)⟩⟩
          ·rw [if_neg c27] at H
           have c27b0 : decide (0 ≤ x15_2) = false:=decide_eq_false c27
           clear c27
           simp only [Option.some.injEq,Prod.mk.injEq] at H
           obtain ⟨rfl,rfl⟩:=H
           go_wp2
           go_ret2
           exact ⟨_,by first|rfl|(simp [errW_none,errW_some] <;> rfl)|(simp only [← hji21];first|rfl|(simp [errW_none,errW_some] <;> rfl))|(simp [*,errW_none,errW_some] <;> rfl),by (with_reducible repeat (first|apply Kd.R_alloc|apply Kd.R_drewN|apply Kd.R_drew));exact HO_11.out,by repeat (first|(with_reducible first|exact HB.out|apply below_alloc|apply pw_below_drewN|apply below_drew1)|exact HB.out)⟩
       ·replace c25:=Bool.eq_false_iff.mpr c25
        subst c25
        have H1 : ((difference_longer.f k1 (rd_L6 x10_1 (ji21)) t213).bind fun t229=>(if x10_1.length < 5864062014805 then (difference_Refute.l0 k1 t213 (x10_1 ++ [t229])) else (none))) = some (r1,r2):=by rw [if_neg (show ¬ (false = true) by decide)] at H;exact H
        clear H
        have H:=H1
        clear H1
        replace H:=Option.bind_eq_some_iff.mp H
        obtain ⟨t229,A530,H⟩:=H
        replace H : (if x10_1.length < 5864062014805 then (difference_Refute.l0 k1 t213 (x10_1 ++ [t229])) else (none)) = some (r1,r2):=H
        have A53:=Aside0.mk A530
        clear A530
        by_cases c54 : x10_1.length < 5864062014805
        ·rw [if_pos c54] at H
         have LMc54:=Aside0.mk c54
         clear c54
         obtain ⟨y232,hy232⟩ : ∃ y_ : List (List (List Int)),y_ = (x10_1 ++ [t229]):=⟨_,rfl⟩
         replace H : (difference_Refute.l0 k1 t213 y232) = some (r1,r2):=by first|(rw [hy232];with_reducible exact H)|(have H2_:=(Option.bind_some _ _).symm.trans H;rw [hy232];with_reducible exact H2_)|(have H2_:=(Option.bind_some _ _).symm.trans H;with_reducible exact H2_)|with_reducible exact H|(rw [hy232];exact H)|exact H
         have Ny232:=Aside0.mk hy232
         clear hy232
         have H':=Aside0.mk H
         clear H
         obtain ⟨Ao55,co55,eo55⟩:=Kd.N_slice HO_10.out
         subst eo55
         have p226 : 0 ≤ ((ji21) : Int):=of_decide_eq_true (by first|(with_reducible assumption)|assumption)
         have q226 : (ji21) < (x10_1.length : Int):=of_decide_eq_true (by first|(with_reducible assumption)|assumption)
         obtain ⟨ad226,A226_0,c226_0,e226,hx226_0,hl226_0,hi226_0⟩:=at_L6 (Kd.N_reads' HO_10.out).2.2 (ji21) p226 q226
         cases e226
         obtain ⟨ce226,hce226,hMe226,hcc226⟩:=Kd.N_get HO_10.out [] (ji21) p226 (by first|exact q226|exact of_decide_eq_true (by first|(with_reducible assumption)|assumption)|(have e_:=(Kd.N_reads' HO_10.out).1;omega))
         obtain ⟨ua226_0,uc226_0,rfl,ul226_0,ge226_0⟩:=Kd.FK_slice_open hMe226
         have hv226_0:=hcc226 0 _ rfl
         rw [Nat.add_zero,show ((Kd.slice 36 (Kd.slice 3 (Kd.int .i64)))).sz = 1 from rfl,Nat.mul_one] at hv226_0
         replace hv226_0:=Option.some.inj (hv226_0.symm.trans hx226_0)
         injection hv226_0 with hva_ hvn_ hvc_
         rw [hva_] at ge226_0
         rw [hvc_] at ul226_0
         have HL226_0:=Aside0.mk (show Kd.V (Kd.slice 3 (Kd.int .i64)) 36 _ w.heap.size _ _ (rd_L6 x10_1 (ji21)) from Kd.V_mk ul226_0 ge226_0)
         clear hva_ hvn_ hvc_ ge226_0 ul226_0
         clear hcc226 hce226
         have HR226_0:=Aside0.mk hi226_0
         have HC226_0:=Aside0.mk hl226_0
         clear hi226_0 hl226_0
         replace p226:=eq_true p226
         replace q226:=eq_true q226
         go_wp2_with (first|(go_at_call 48;(with_reducible refine (difference_closed.calls k1 _ _ (rd_L6 x10_1 (ji21)) false _ ?side1 ?side2 A24.out).mono ?_);(case side1=>repeat (first|exact (by repeat (first|(with_reducible exact HR226_0.out)|(with_reducible refine Kd.C_alloc ?_ _)|(with_reducible refine Kd.C_drewN ?_ _)|(with_reducible refine Kd.C_drew ?_)|exact HR226_0.out))|(with_reducible refine Kd.C_alloc ?_ _)|(with_reducible refine Kd.C_drewN ?_ _)|(with_reducible refine Kd.C_drew ?_)));(case side2=>exact HC226_0.out);rintro e w' ⟨rfl,⟨nd,rfl⟩⟩;(try first|exact ⟨rfl,_,World.drewN_drewN _ _ _⟩|exact ⟨rfl,_,Eq.trans (World.drewN_drewN _ _ _) (congrArg (World.drewN _) (Nat.add_assoc _ _ _))⟩);have p228 : 0 ≤ ((ji21) : Int):=of_decide_eq_true (by first|(with_reducible assumption)|assumption);have q228 : (ji21) < (x10_1.length : Int):=of_decide_eq_true (by first|(with_reducible assumption)|assumption);obtain ⟨ad228,A228_0,c228_0,e228,hx228_0,hl228_0,hi228_0⟩:=at_L6 (Kd.N_reads' HO_10.out).2.2 (ji21) p228 q228;obtain rfl : ad226 = ad228:=(by injection e228);obtain ⟨ce228,hce228,hMe228,hcc228⟩:=Kd.N_get HO_10.out [] (ji21) p228 (by first|exact q228|exact of_decide_eq_true (by first|(with_reducible assumption)|assumption)|(have e_:=(Kd.N_reads' HO_10.out).1;omega));obtain ⟨ua228_0,uc228_0,rfl,ul228_0,ge228_0⟩:=Kd.FK_slice_open hMe228;have hv228_0:=hcc228 0 _ rfl;rw [Nat.add_zero,show ((Kd.slice 36 (Kd.slice 3 (Kd.int .i64)))).sz = 1 from rfl,Nat.mul_one] at hv228_0;replace hv228_0:=Option.some.inj (hv228_0.symm.trans hx228_0);injection hv228_0 with hva_ hvn_ hvc_;rw [hva_] at ge228_0;rw [hvc_] at ul228_0;have HL228_0:=Aside0.mk (show Kd.V (Kd.slice 3 (Kd.int .i64)) 36 _ w.heap.size _ _ (rd_L6 x10_1 (ji21)) from Kd.V_mk ul228_0 ge228_0);clear hva_ hvn_ hvc_ ge228_0 ul228_0;clear hcc228 hce228;have HR228_0:=Aside0.mk hi228_0;have HC228_0:=Aside0.mk hl228_0;clear hi228_0 hl228_0;replace p228:=eq_true p228;replace q228:=eq_true q228;have ea_:=Option.some.inj (hx226_0.symm.trans hx228_0);injection ea_ with ea_ en_ ec_;subst ea_;subst ec_;clear en_)|(go_at_call 49;(with_reducible refine (difference_longer.calls k1 _ _ (rd_L6 x10_1 (ji21)) _ _ t213 t229 _ ?side1 ?side2 ?side3 ?side4 A53.out).mono ?_);(case side1=>repeat (first|exact (by repeat (first|(with_reducible exact HR228_0.out)|(with_reducible refine Kd.C_alloc ?_ _)|(with_reducible refine Kd.C_drewN ?_ _)|(with_reducible refine Kd.C_drew ?_)|exact HR228_0.out))|(with_reducible refine Kd.C_alloc ?_ _)|(with_reducible refine Kd.C_drewN ?_ _)|(with_reducible refine Kd.C_drew ?_)));(case side2=>exact HC228_0.out);(case side3=>repeat (first|exact (Kd.R_reads' HO_7.out).2.2|(with_reducible refine Kd.C_alloc ?_ _)|(with_reducible refine Kd.C_drewN ?_ _)|(with_reducible refine Kd.C_drew ?_)));(case side4=>exact (Kd.R_reads' HO_7.out).2.1);rintro e w56 ⟨v230,rfl,ho0,hb⟩;have n0_:=Aside0.mk (Kd.R_below (by (with_reducible repeat (first|apply Kd.R_alloc|apply Kd.R_drewN|apply Kd.R_drew));exact HO_7.out) hb);have n1_:=Aside0.mk (Kd.N_elder' (by (with_reducible repeat (first|apply Kd.N_alloc|apply Kd.N_drewN|apply Kd.N_drew));exact HO_10.out) (Kd.S_base ho0) hb);have n2_:=Aside0.mk (Kd.V_elder' (by (with_reducible repeat (first|apply Kd.V_alloc|apply Kd.V_drewN|apply Kd.V_drew));exact HL226_0.out) (Kd.S_base ho0) hb);have n3_:=Aside0.mk (Kd.V_elder' (by (with_reducible repeat (first|apply Kd.V_alloc|apply Kd.V_drewN|apply Kd.V_drew));exact HL228_0.out) (Kd.S_base ho0) hb);have n4_:=Aside0.mk (Kd.N_lower (Kd.N_mono (ok':=fun k_=>some k_ ≠ (.slice Ao15 t213.length co15 : Value).ownBlock ∧ some k_ ≠ (.slice (some ad226) x10_1.length co55 : Value).ownBlock) (Kd.S_N (Kd.S_bound ho0)) (fun k_ hk_=>⟨(Kd.fresh' (Kd.R_lt (by (with_reducible repeat (first|apply Kd.R_alloc|apply Kd.R_drewN|apply Kd.R_drew));exact HO_7.out)) k_ hk_.2.1),(Kd.fresh' (Kd.N_lt (by (with_reducible repeat (first|apply Kd.N_alloc|apply Kd.N_drewN|apply Kd.N_drew));exact HO_10.out)) k_ hk_.2.1)⟩)) (below_size (by repeat (first|(with_reducible first|exact HB.out|apply below_alloc|apply pw_below_drewN|apply below_drew1)|exact HB.out))));have n5_:=Aside0.mk (Kd.C_below (by repeat (first|(with_reducible exact HR226_0.out)|(with_reducible refine Kd.C_alloc ?_ _)|(with_reducible refine Kd.C_drewN ?_ _)|(with_reducible refine Kd.C_drew ?_)|exact HR226_0.out)) hb);have n6_:=Aside0.mk (Kd.C_below (by repeat (first|(with_reducible exact HR228_0.out)|(with_reducible refine Kd.C_alloc ?_ _)|(with_reducible refine Kd.C_drewN ?_ _)|(with_reducible refine Kd.C_drew ?_)|exact HR228_0.out)) hb);have n7_:=Aside0.mk (below_step (by repeat (first|(with_reducible first|exact HB.out|apply below_alloc|apply pw_below_drewN|apply below_drew1)|exact HB.out)) hb);clear HO_7;clear HO_10;clear HL226_0;clear HL228_0;clear HR226_0;clear HR228_0;clear HB;have HO_7:=n0_;have HO_10:=n1_;have HL226_0:=n2_;have HL228_0:=n3_;have HO231:=n4_;have HR226_0:=n5_;have HR228_0:=n6_;have HB:=n7_;clear n0_ n1_ n2_ n3_ n4_ n5_ n6_ n7_;(try clear hb);(try clear hb2);(try clear hk);(try clear hi);(try clear ho0);obtain ⟨Ao58,co58,eo58⟩:=Kd.N_slice HO231.out;subst eo58)|((with_reducible refine gate_builtin (b:=.append) (xs:=#[.tmp 46,.tmp 55]) rfl ?_);at_builtin;refine Kd.N_append (Kd.slice 36 (Kd.slice 3 (Kd.int .i64))) (w0:=w) w.heap.size rfl (.tmp 46) (.tmp 55) 84 82 (.slice none 0 0) 24 rfl Try.underlying84 info82 rfl (by decide) (by omega) (.slice (some ad226) x10_1.length co55) x10_1 t229 [.slice Ao58 t229.length co58] (fun k_=>some k_ ≠ (.slice Ao15 t213.length co15 : Value).ownBlock) (fun k_=>((fun k_=>some k_ ≠ (.slice Ao15 t213.length co15 : Value).ownBlock)) k_ ∧ some k_ ≠ (.slice (some ad226) x10_1.length co55 : Value).ownBlock) rfl rfl ?aP (fun _ hk=>hk) ?aF ?aO ?aB ?aS ?aL ?_;(case aP=>exact (Kd.FK_slice_mk (Kd.N_reads' (Kd.N_mono (ok':=(fun k_=>((fun k_=>some k_ ≠ (.slice Ao15 t213.length co15 : Value).ownBlock)) k_ ∧ some k_ ≠ (.slice (some ad226) x10_1.length co55 : Value).ownBlock)) (HO231.out) (fun k_ hk=>⟨hk.1,hk.2⟩))).2.1 (Kd.N_F (Kd.N_mono (ok':=(fun k_=>((fun k_=>some k_ ≠ (.slice Ao15 t213.length co15 : Value).ownBlock)) k_ ∧ some k_ ≠ (.slice (some ad226) x10_1.length co55 : Value).ownBlock)) (HO231.out) (fun k_ hk=>⟨hk.1,hk.2⟩)))));(case aB=>exact (by repeat (first|(with_reducible first|exact HB.out|apply below_alloc|apply pw_below_drewN|apply below_drew1)|exact HB.out)));(case aF=>exact (fun k_ hk=>Kd.fresh' (Kd.R_lt (by (with_reducible repeat (first|apply Kd.R_alloc|apply Kd.R_drewN|apply Kd.R_drew));exact HO_7.out)) k_ hk));(case aO=>exact (by (with_reducible repeat (first|apply Kd.N_alloc|apply Kd.N_drewN|apply Kd.N_drew));exact Kd.N_mono HO_10.out (fun _ hk=>hk.1)));(case aS=>exact (below_size (by repeat (first|(with_reducible first|exact HB.out|apply below_alloc|apply pw_below_drewN|apply below_drew1)|exact HB.out))));(case aL=>have:=LMc54.out;omega);intro v233 w57 ho hb hg hat;rw [← Ny232.out] at ho;have n0_:=Aside0.mk (Kd.R_over' (by (with_reducible repeat (first|apply Kd.R_alloc|apply Kd.R_drewN|apply Kd.R_drew));exact HO_7.out) (Kd.N_typed (by (with_reducible repeat (first|apply Kd.N_alloc|apply Kd.N_drewN|apply Kd.N_drew));exact HO_10.out)) (by decide) hg);have n1_:=Aside0.mk (Kd.V_afterv (ok:=(fun k_=>some k_ ≠ (.slice Ao15 t213.length co15 : Value).ownBlock ∧ some k_ ≠ (.slice Ao58 t229.length co58 : Value).ownBlock)) (by (with_reducible repeat (first|apply Kd.V_alloc|apply Kd.V_drewN|apply Kd.V_drew));exact Kd.V_mono HL226_0.out (fun _ hk=>⟨⟨hk.1.1,hk.2⟩,hk.1.2⟩)) hg hat);have n2_:=Aside0.mk (Kd.V_afterv (ok:=(fun k_=>some k_ ≠ (.slice Ao15 t213.length co15 : Value).ownBlock ∧ some k_ ≠ (.slice Ao58 t229.length co58 : Value).ownBlock)) (by (with_reducible repeat (first|apply Kd.V_alloc|apply Kd.V_drewN|apply Kd.V_drew));exact Kd.V_mono HL228_0.out (fun _ hk=>⟨⟨hk.1.1,hk.2⟩,hk.1.2⟩)) hg hat);have n3_:=Aside0.mk (hb);have n4_:=Aside0.mk (ho);clear HO_7;clear HL226_0;clear HL228_0;clear HB;clear HO_10;clear HO231;have HO_7:=n0_;have HL226_0:=n1_;have HL228_0:=n2_;have HB:=n3_;have HO234:=n4_;clear n0_ n1_ n2_ n3_ n4_;clear ho hb hg hat))
         go_roundg k1
         case measure=>have:=HK1.out;omega
         case rel=>exact ⟨(y232),H',⟨by have:=HK1.out;omega⟩,⟨by (with_reducible repeat (first|apply Kd.R_alloc|apply Kd.R_drewN|apply Kd.R_drew));exact HO_7.out⟩,⟨by (with_reducible repeat (first|apply Kd.N_alloc|apply Kd.N_drewN|apply Kd.N_drew));exact HO234.out⟩,⟨by repeat (first|(with_reducible first|exact HB.out|apply below_alloc|apply pw_below_drewN|apply below_drew1)|exact HB.out)⟩⟩
        ·rw [if_neg c54] at H
         exact absurd H (by simp)
      ·rw [if_neg c23] at H
       exact absurd H (by simp)
     ·rw [if_neg c22] at H
      exact absurd H (by simp)
 ·rw [if_neg c4] at H
  have c4b0 : (t212 == 0) = false:=beq_eq_false_iff_ne.mpr c4
  have c4b1 : (t212 != 0) = true:=bne_iff_ne.mpr c4
  simp only [Option.some.injEq,Prod.mk.injEq] at H
  obtain ⟨rfl,rfl⟩:=H
  go_enter Try.func18,Try.ntmps18
  go_wp2_with (first|(go_at_call 30;(with_reducible refine (difference_Valid.calls k a0 _ _ l1 t212 _ ?side1 ?side2 A3.out).mono ?_);(case side1=>repeat (first|exact HR1.out|(with_reducible refine Kd.C_alloc ?_ _)|(with_reducible refine Kd.C_drewN ?_ _)|(with_reducible refine Kd.C_drew ?_)));(case side2=>exact HC1.out);rintro e w59 ⟨rfl,hb⟩;have n0_:=Aside0.mk (below_step (by repeat (first|(with_reducible first|exact HB.out|apply below_alloc|apply pw_below_drewN|apply below_drew1)|exact HB.out)) hb);clear HB;have HB:=n0_;clear n0_;(try clear hb);(try clear hb2);(try clear hk);(try clear hi)))
  go_ret2
  exact ⟨_,by first|rfl|(simp [errW_none,errW_some] <;> rfl)|(simp [*,errW_none,errW_some] <;> rfl),by first|exact Kd.R_nil _ _ _ _ _|exact Kd.N_nil _ _ _ _ _|exact Kd.V_nil _ _ _ _ _|exact Kd.Q_nil _ _ _ _ _|exact Kd.S_nil _ _ _ _ _,by repeat (first|(with_reducible first|exact HB.out|apply below_alloc|apply pw_below_drewN|apply below_drew1)|exact HB.out)⟩

end Go.Proofs.Yteebkkdbkkibmaa.Pr
