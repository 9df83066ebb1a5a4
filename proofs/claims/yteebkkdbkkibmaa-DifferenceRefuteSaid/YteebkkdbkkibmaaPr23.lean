/- Functions of this claim and what their calls compute, written by wip/tools/mp.py, a variant of the kit printer. Conditions: each theorem has its own. -/
import Derived.Test.YteebkkdbkkibmaaPr0
import Derived.Test.YteebkkdbkkibmaaPr14
import Derived.Test.YteebkkdbkkibmaaPr15
import Derived.Test.YteebkkdbkkibmaaPr16
import Derived.Test.YteebkkdbkkibmaaPr17
namespace Go.Proofs.Yteebkkdbkkibmaa.Pr
open Go.RowKit Go.Proofs.YteebkkdbkkibmaaW.PrintWords Go.Proofs.YteebkkdbkkibmaaW.PrintLast Go.Proofs.YteebkkdbkkibmaaW.PrintMore
attribute [local go_sem] max2_int min2_int max_two min_two max_three min_three max_four min_four   -- for this text's walks alone
set_option linter.unusedVariables false
set_option linter.unusedSimpArgs false

/-! ### scarfjointref03_Refute: function 23 -/
mutual
def scarfjointref03_Refute.l0 : Nat → Int → List (S79) → List (List (List Int)) → Bool → Option ((List (S55)) × Int)
 | 0,_,_,_,_ => none
 | k + 1,x0,x9,x10,x11 => if x11 = true then (scarfjointref03_Refute.l2 k x9 x10 ([] : List (S55)) (-1) (-1) 0 (wrap64 ((x10.length : Int) - 2))) else (if 0 ≤ (wrap64 ((x10.length : Int) - 1)) then (if (wrap64 ((x10.length : Int) - 1)) < (x10.length : Int) then ((scarfjointref03_further.f k x0 x9 (rd_L6 x10 (wrap64 ((x10.length : Int) - 1)))).bind fun t406 => (if x10.length < 5864062014805 then (scarfjointref03_Refute.l1 k x0 x9 (x10 ++ [t406]) x11 t406 0) else (none))) else (none)) else (none))
def scarfjointref03_Refute.l2 : Nat → List (S79) → List (List (List Int)) → List (S55) → Int → Int → Int → Int → Option ((List (S55)) × Int)
 | 0,_,_,_,_,_,_,_ => none
 | k + 1,x9,x10,x14,x15,x16,x17,x18 => if x18 ≥ 0 then (scarfjointref03_Refute.l3 k x9 x10 x14 x15 x16 x17 x18 0) else (some (x14,0))
def scarfjointref03_Refute.l3 : Nat → List (S79) → List (List (List Int)) → List (S55) → Int → Int → Int → Int → Int → Option ((List (S55)) × Int)
 | 0,_,_,_,_,_,_,_,_ => none
 | k + 1,x9,x10,x14,x15,x16,x17,x18,x19 => if x19 < (x9.length : Int) then (if x15 ≥ 0 then (if 0 ≤ x19 then (scarfjointref03_Refute.j4 k x9 x10 x14 x15 x16 x17 x18 x19 (((rd_T79 x9 x19).f1) != x16)) else (none)) else (scarfjointref03_Refute.j4 k x9 x10 x14 x15 x16 x17 x18 x19 false)) else (scarfjointref03_Refute.l2 k x9 x10 x14 x15 x16 x17 (wrap64 (x18 - 1)))
def scarfjointref03_Refute.j4 : Nat → List (S79) → List (List (List Int)) → List (S55) → Int → Int → Int → Int → Int → Bool → Option ((List (S55)) × Int)
 | 0,_,_,_,_,_,_,_,_,_ => none
 | k + 1,x9,x10,x14,x15,x16,x17,x18,x19,x94 => if x94 = true then (scarfjointref03_Refute.l3 k x9 x10 x14 x15 x16 x17 x18 (wrap64 (x19 + 1))) else (if x15 < 0 then (if 0 ≤ x19 then (if x19 < (x9.length : Int) then (if 0 ≤ x18 then (if x18 < (x10.length : Int) then (if 0 ≤ ((rd_T79 x9 x19).f2) then (if ((rd_T79 x9 x19).f2) < ((rd_L6 x10 x18).length : Int) then (if 0 ≤ ((rd_T79 x9 x19).f1) then (if ((rd_T79 x9 x19).f1) < ((rd_L5 (rd_L6 x10 x18) ((rd_T79 x9 x19).f2)).length : Int) then (if (rd (rd_L5 (rd_L6 x10 x18) ((rd_T79 x9 x19).f2)) ((rd_T79 x9 x19).f1)) < 1125899906842624 then (if (wrap64 ((wrap64 (x17 + ((rd_T79 x9 x19).f3))) + (rd (rd_L5 (rd_L6 x10 x18) ((rd_T79 x9 x19).f2)) ((rd_T79 x9 x19).f1)))) < 0 then (if x14.length < 8796093022208 then (scarfjointref03_Refute.l2 k x9 x10 (x14 ++ [(⟨(rd_T79 x9 x19).f0.f0,(rd_T79 x9 x19).f0.f1⟩ : S55)]) ((rd_T79 x9 x19).f1) ((rd_T79 x9 x19).f2) (wrap64 (x17 + ((rd_T79 x9 x19).f3))) (wrap64 (x18 - 1))) else (none)) else (scarfjointref03_Refute.l3 k x9 x10 x14 x15 x16 x17 x18 (wrap64 (x19 + 1)))) else (scarfjointref03_Refute.l3 k x9 x10 x14 x15 x16 x17 x18 (wrap64 (x19 + 1)))) else (none)) else (none)) else (none)) else (none)) else (none)) else (none)) else (none)) else (none)) else (if 0 ≤ x18 then (if x18 < (x10.length : Int) then (if 0 ≤ x19 then (if x19 < (x9.length : Int) then (if 0 ≤ ((rd_T79 x9 x19).f2) then (if ((rd_T79 x9 x19).f2) < ((rd_L6 x10 x18).length : Int) then (if 0 ≤ x15 then (if x15 < ((rd_L5 (rd_L6 x10 x18) ((rd_T79 x9 x19).f2)).length : Int) then (if (rd (rd_L5 (rd_L6 x10 x18) ((rd_T79 x9 x19).f2)) x15) < 1125899906842624 then (if (wrap64 ((wrap64 (x17 + ((rd_T79 x9 x19).f3))) + (rd (rd_L5 (rd_L6 x10 x18) ((rd_T79 x9 x19).f2)) x15))) < 0 then (if x14.length < 8796093022208 then (scarfjointref03_Refute.l2 k x9 x10 (x14 ++ [(⟨(rd_T79 x9 x19).f0.f0,(rd_T79 x9 x19).f0.f1⟩ : S55)]) x15 ((rd_T79 x9 x19).f2) (wrap64 (x17 + ((rd_T79 x9 x19).f3))) (wrap64 (x18 - 1))) else (none)) else (scarfjointref03_Refute.l3 k x9 x10 x14 x15 x16 x17 x18 (wrap64 (x19 + 1)))) else (scarfjointref03_Refute.l3 k x9 x10 x14 x15 x16 x17 x18 (wrap64 (x19 + 1)))) else (none)) else (none)) else (none)) else (none)) else (none)) else (none)) else (none)) else (none)))
def scarfjointref03_Refute.l1 : Nat → Int → List (S79) → List (List (List Int)) → Bool → List (List Int) → Int → Option ((List (S55)) × Int)
 | 0,_,_,_,_,_,_ => none
 | k + 1,x0,x9,x10,x11,x12,x13 => if x13 ≤ x0 then (if x11 = true then (scarfjointref03_Refute.l1 k x0 x9 x10 true x12 (wrap64 (x13 + 1))) else (if 0 ≤ x13 then (if x13 < (x12.length : Int) then (if x13 < ((rd_L5 x12 x13).length : Int) then (scarfjointref03_Refute.l1 k x0 x9 x10 (decide ((rd (rd_L5 x12 x13) x13) < 0)) x12 (wrap64 (x13 + 1))) else (none)) else (none)) else (none))) else (scarfjointref03_Refute.l0 k x0 x9 x10 x11)
end
def scarfjointref03_Refute.f (k : Nat) (a0 : Int) (l1 : List (S26)) : Option ((List (S55)) × Int):=(scarfjointref03_Valid.f k a0 l1).bind fun t391=>(if t391 = 0 then ((scarfjointref03_distances.f k a0 l1).bind fun bt392=>(if bt392.2 = true then (some (([] : List (S55)),10)) else ((scarfjointref03_arcs.f k l1).bind fun t396=>((scarfjointref03_square.f k a0 1125899906842624 0).bind fun t399=>(scarfjointref03_Refute.l0 k a0 t396 (([t399] : List (List (List Int)))) false))))) else (some (([] : List (S55)),t391)))
theorem scarfjointref03_Refute.mono_l : ∀ k,(∀ y0 y1 y2 y3,LeO (scarfjointref03_Refute.l0 k y0 y1 y2 y3) (scarfjointref03_Refute.l0 (k + 1) y0 y1 y2 y3)) ∧ (∀ y0 y1 y2 y3 y4 y5 y6,LeO (scarfjointref03_Refute.l2 k y0 y1 y2 y3 y4 y5 y6) (scarfjointref03_Refute.l2 (k + 1) y0 y1 y2 y3 y4 y5 y6)) ∧ (∀ y0 y1 y2 y3 y4 y5 y6 y7,LeO (scarfjointref03_Refute.l3 k y0 y1 y2 y3 y4 y5 y6 y7) (scarfjointref03_Refute.l3 (k + 1) y0 y1 y2 y3 y4 y5 y6 y7)) ∧ (∀ y0 y1 y2 y3 y4 y5 y6 y7 y8,LeO (scarfjointref03_Refute.j4 k y0 y1 y2 y3 y4 y5 y6 y7 y8) (scarfjointref03_Refute.j4 (k + 1) y0 y1 y2 y3 y4 y5 y6 y7 y8)) ∧ (∀ y0 y1 y2 y3 y4 y5,LeO (scarfjointref03_Refute.l1 k y0 y1 y2 y3 y4 y5) (scarfjointref03_Refute.l1 (k + 1) y0 y1 y2 y3 y4 y5))
 | 0 => ⟨fun _ _ _ _ r h => by simp [scarfjointref03_Refute.l0] at h,fun _ _ _ _ _ _ _ r h => by simp [scarfjointref03_Refute.l2] at h,fun _ _ _ _ _ _ _ _ r h => by simp [scarfjointref03_Refute.l3] at h,fun _ _ _ _ _ _ _ _ _ r h => by simp [scarfjointref03_Refute.j4] at h,fun _ _ _ _ _ _ r h => by simp [scarfjointref03_Refute.l1] at h⟩
 | k + 1 => by
  obtain ⟨ih0,ih1,ih2,ih3,ih4⟩:=scarfjointref03_Refute.mono_l k
  refine ⟨?_,?_,?_,?_,?_⟩
  ·intro y0 y1 y2 y3
   unfold scarfjointref03_Refute.l0
   repeat' first
   | (with_reducible exact ih0 _ _ _ _)
   | (with_reducible exact ih1 _ _ _ _ _ _ _)
   | (with_reducible exact ih2 _ _ _ _ _ _ _ _)
   | (with_reducible exact ih3 _ _ _ _ _ _ _ _ _)
   | (with_reducible exact ih4 _ _ _ _ _ _)
   | (with_reducible exact scarfjointref03_Valid.mono _ _ _)
   | (with_reducible exact scarfjointref03_arcs.mono _ _)
   | (with_reducible exact scarfjointref03_distances.mono _ _ _)
   | (with_reducible exact scarfjointref03_further.mono _ _ _ _)
   | (with_reducible exact scarfjointref03_square.mono _ _ _ _)
   | (with_reducible exact LeO.refl _)
   | (with_reducible exact LeO.none _)
   | (with_reducible refine LeO.ite ?_ ?_)
   | (with_reducible refine LeO.bind ?_ (fun _ => ?_))
   | exact ih0 _ _ _ _
   | exact ih1 _ _ _ _ _ _ _
   | exact ih2 _ _ _ _ _ _ _ _
   | exact ih3 _ _ _ _ _ _ _ _ _
   | exact ih4 _ _ _ _ _ _
   | exact scarfjointref03_Valid.mono _ _ _
   | exact scarfjointref03_arcs.mono _ _
   | exact scarfjointref03_distances.mono _ _ _
   | exact scarfjointref03_further.mono _ _ _ _
   | exact scarfjointref03_square.mono _ _ _ _
   | exact LeO.none _
   | refine LeO.ite ?_ ?_
   | refine LeO.bind ?_ (fun _ => ?_)
  ·intro y0 y1 y2 y3 y4 y5 y6
   unfold scarfjointref03_Refute.l2
   repeat' first
   | (with_reducible exact ih0 _ _ _ _)
   | (with_reducible exact ih1 _ _ _ _ _ _ _)
   | (with_reducible exact ih2 _ _ _ _ _ _ _ _)
   | (with_reducible exact ih3 _ _ _ _ _ _ _ _ _)
   | (with_reducible exact ih4 _ _ _ _ _ _)
   | (with_reducible exact scarfjointref03_Valid.mono _ _ _)
   | (with_reducible exact scarfjointref03_arcs.mono _ _)
   | (with_reducible exact scarfjointref03_distances.mono _ _ _)
   | (with_reducible exact scarfjointref03_further.mono _ _ _ _)
   | (with_reducible exact scarfjointref03_square.mono _ _ _ _)
   | (with_reducible exact LeO.refl _)
   | (with_reducible exact LeO.none _)
   | (with_reducible refine LeO.ite ?_ ?_)
   | (with_reducible refine LeO.bind ?_ (fun _ => ?_))
   | exact ih0 _ _ _ _
   | exact ih1 _ _ _ _ _ _ _
   | exact ih2 _ _ _ _ _ _ _ _
   | exact ih3 _ _ _ _ _ _ _ _ _
   | exact ih4 _ _ _ _ _ _
   | exact scarfjointref03_Valid.mono _ _ _
   | exact scarfjointref03_arcs.mono _ _
   | exact scarfjointref03_distances.mono _ _ _
   | exact scarfjointref03_further.mono _ _ _ _
   | exact scarfjointref03_square.mono _ _ _ _
   | exact LeO.none _
   | refine LeO.ite ?_ ?_
   | refine LeO.bind ?_ (fun _ => ?_)
  ·intro y0 y1 y2 y3 y4 y5 y6 y7
   unfold scarfjointref03_Refute.l3
   repeat' first
   | (with_reducible exact ih0 _ _ _ _)
   | (with_reducible exact ih1 _ _ _ _ _ _ _)
   | (with_reducible exact ih2 _ _ _ _ _ _ _ _)
   | (with_reducible exact ih3 _ _ _ _ _ _ _ _ _)
   | (with_reducible exact ih4 _ _ _ _ _ _)
   | (with_reducible exact scarfjointref03_Valid.mono _ _ _)
   | (with_reducible exact scarfjointref03_arcs.mono _ _)
   | (with_reducible exact scarfjointref03_distances.mono _ _ _)
   | (with_reducible exact scarfjointref03_further.mono _ _ _ _)
   | (with_reducible exact scarfjointref03_square.mono _ _ _ _)
   | (with_reducible exact LeO.refl _)
   | (with_reducible exact LeO.none _)
   | (with_reducible refine LeO.ite ?_ ?_)
   | (with_reducible refine LeO.bind ?_ (fun _ => ?_))
   | exact ih0 _ _ _ _
   | exact ih1 _ _ _ _ _ _ _
   | exact ih2 _ _ _ _ _ _ _ _
   | exact ih3 _ _ _ _ _ _ _ _ _
   | exact ih4 _ _ _ _ _ _
   | exact scarfjointref03_Valid.mono _ _ _
   | exact scarfjointref03_arcs.mono _ _
   | exact scarfjointref03_distances.mono _ _ _
   | exact scarfjointref03_further.mono _ _ _ _
   | exact scarfjointref03_square.mono _ _ _ _
   | exact LeO.none _
   | refine LeO.ite ?_ ?_
   | refine LeO.bind ?_ (fun _ => ?_)
  ·intro y0 y1 y2 y3 y4 y5 y6 y7 y8
   unfold scarfjointref03_Refute.j4
   repeat' first
   | (with_reducible exact ih0 _ _ _ _)
   | (with_reducible exact ih1 _ _ _ _ _ _ _)
   | (with_reducible exact ih2 _ _ _ _ _ _ _ _)
   | (with_reducible exact ih3 _ _ _ _ _ _ _ _ _)
   | (with_reducible exact ih4 _ _ _ _ _ _)
   | (with_reducible exact scarfjointref03_Valid.mono _ _ _)
   | (with_reducible exact scarfjointref03_arcs.mono _ _)
   | (with_reducible exact scarfjointref03_distances.mono _ _ _)
   | (with_reducible exact scarfjointref03_further.mono _ _ _ _)
   | (with_reducible exact scarfjointref03_square.mono _ _ _ _)
   | (with_reducible exact LeO.refl _)
   | (with_reducible exact LeO.none _)
   | (with_reducible refine LeO.ite ?_ ?_)
   | (with_reducible refine LeO.bind ?_ (fun _ => ?_))
   | exact ih0 _ _ _ _
   | exact ih1 _ _ _ _ _ _ _
   | exact ih2 _ _ _ _ _ _ _ _
   | exact ih3 _ _ _ _ _ _ _ _ _
   | exact ih4 _ _ _ _ _ _
   | exact scarfjointref03_Valid.mono _ _ _
   | exact scarfjointref03_arcs.mono _ _
   | exact scarfjointref03_distances.mono _ _ _
   | exact scarfjointref03_further.mono _ _ _ _
   | exact scarfjointref03_square.mono _ _ _ _
   | exact LeO.none _
   | refine LeO.ite ?_ ?_
   | refine LeO.bind ?_ (fun _ => ?_)
  ·intro y0 y1 y2 y3 y4 y5
   unfold scarfjointref03_Refute.l1
   repeat' first
   | (with_reducible exact ih0 _ _ _ _)
   | (with_reducible exact ih1 _ _ _ _ _ _ _)
   | (with_reducible exact ih2 _ _ _ _ _ _ _ _)
   | (with_reducible exact ih3 _ _ _ _ _ _ _ _ _)
   | (with_reducible exact ih4 _ _ _ _ _ _)
   | (with_reducible exact scarfjointref03_Valid.mono _ _ _)
   | (with_reducible exact scarfjointref03_arcs.mono _ _)
   | (with_reducible exact scarfjointref03_distances.mono _ _ _)
   | (with_reducible exact scarfjointref03_further.mono _ _ _ _)
   | (with_reducible exact scarfjointref03_square.mono _ _ _ _)
   | (with_reducible exact LeO.refl _)
   | (with_reducible exact LeO.none _)
   | (with_reducible refine LeO.ite ?_ ?_)
   | (with_reducible refine LeO.bind ?_ (fun _ => ?_))
   | exact ih0 _ _ _ _
   | exact ih1 _ _ _ _ _ _ _
   | exact ih2 _ _ _ _ _ _ _ _
   | exact ih3 _ _ _ _ _ _ _ _ _
   | exact ih4 _ _ _ _ _ _
   | exact scarfjointref03_Valid.mono _ _ _
   | exact scarfjointref03_arcs.mono _ _
   | exact scarfjointref03_distances.mono _ _ _
   | exact scarfjointref03_further.mono _ _ _ _
   | exact scarfjointref03_square.mono _ _ _ _
   | exact LeO.none _
   | refine LeO.ite ?_ ?_
   | refine LeO.bind ?_ (fun _ => ?_)
theorem scarfjointref03_Refute.mono : ∀ a0 a1 k,LeO (scarfjointref03_Refute.f k a0 a1) (scarfjointref03_Refute.f (k + 1) a0 a1):=by
 intro a0 a1 k
 obtain ⟨ih0,ih1,ih2,ih3,ih4⟩:=scarfjointref03_Refute.mono_l k
 unfold scarfjointref03_Refute.f
 repeat' first
   | (with_reducible exact ih0 _ _ _ _)
   | (with_reducible exact ih1 _ _ _ _ _ _ _)
   | (with_reducible exact ih2 _ _ _ _ _ _ _ _)
   | (with_reducible exact ih3 _ _ _ _ _ _ _ _ _)
   | (with_reducible exact ih4 _ _ _ _ _ _)
   | (with_reducible exact scarfjointref03_Valid.mono _ _ _)
   | (with_reducible exact scarfjointref03_arcs.mono _ _)
   | (with_reducible exact scarfjointref03_distances.mono _ _ _)
   | (with_reducible exact scarfjointref03_further.mono _ _ _ _)
   | (with_reducible exact scarfjointref03_square.mono _ _ _ _)
   | (with_reducible exact LeO.refl _)
   | (with_reducible exact LeO.none _)
   | (with_reducible refine LeO.ite ?_ ?_)
   | (with_reducible refine LeO.bind ?_ (fun _ => ?_))
   | exact ih0 _ _ _ _
   | exact ih1 _ _ _ _ _ _ _
   | exact ih2 _ _ _ _ _ _ _ _
   | exact ih3 _ _ _ _ _ _ _ _ _
   | exact ih4 _ _ _ _ _ _
   | exact scarfjointref03_Valid.mono _ _ _
   | exact scarfjointref03_arcs.mono _ _
   | exact scarfjointref03_distances.mono _ _ _
   | exact scarfjointref03_further.mono _ _ _ _
   | exact scarfjointref03_square.mono _ _ _ _
   | exact LeO.none _
   | refine LeO.ite ?_ ?_
   | refine LeO.bind ?_ (fun _ => ?_)
set_option maxHeartbeats 8000000 in
set_option maxRecDepth 100000 in
theorem scarfjointref03_Refute.calls (k : Nat) (a0 : Int) (A1 : Option Addr) (c1 : Nat) (l1 : List (S26)) (r1 : List (S55)) (r2 : Int) (w : World) (hr1 : Kd.C k26 w A1 l1.length l1) (hc1 : l1.length ≤ c1) (h : scarfjointref03_Refute.f k a0 l1 = some (r1,r2)) :
  Calls Try.prog 23 #[.int .i64 a0,.slice A1 l1.length c1] w fun e w'=>∃ v0_ : Value,e = .returned (.tuple #[v0_,.int .i64 r2]) ∧ Kd.R k55 55 w' w.heap.size (fun _=>True) v0_ r1 ∧ Below w.heap.size w w':=by
 have hu55:=Try.underlying55
 have HR1:=Aside0.mk hr1
 have HC1:=Aside0.mk hc1
 clear hr1 hc1
 have HB:=Aside0.mk (Below.refl w.heap.size w)
 have H : ((scarfjointref03_Valid.f k a0 l1).bind fun t391=>(if t391 = 0 then ((scarfjointref03_distances.f k a0 l1).bind fun bt392=>(if bt392.2 = true then (some (([] : List (S55)),10)) else ((scarfjointref03_arcs.f k l1).bind fun t396=>((scarfjointref03_square.f k a0 1125899906842624 0).bind fun t399=>(scarfjointref03_Refute.l0 k a0 t396 (([t399] : List (List (List Int)))) false))))) else (some (([] : List (S55)),t391)))) = some (r1,r2):=h
 clear h
 replace H:=Option.bind_eq_some_iff.mp H
 obtain ⟨t391,A30,H⟩:=H
 replace H : (if t391 = 0 then ((scarfjointref03_distances.f k a0 l1).bind fun bt392=>(if bt392.2 = true then (some (([] : List (S55)),10)) else ((scarfjointref03_arcs.f k l1).bind fun t396=>((scarfjointref03_square.f k a0 1125899906842624 0).bind fun t399=>(scarfjointref03_Refute.l0 k a0 t396 (([t399] : List (List (List Int)))) false))))) else (some (([] : List (S55)),t391))) = some (r1,r2):=H
 have A3:=Aside0.mk A30
 clear A30
 by_cases c4 : t391 = 0
 ·rw [if_pos c4] at H
  have c4b0 : (t391 == 0) = true:=beq_iff_eq.mpr c4
  have c4b1 : (t391 != 0) = false:=bne_eq_false_iff_eq.mpr c4
  clear c4
  replace H:=Option.bind_eq_some_iff.mp H
  obtain ⟨⟨t392,t393⟩,A50,H⟩:=H
  replace H : (if t393 = true then (some (([] : List (S55)),10)) else ((scarfjointref03_arcs.f k l1).bind fun t396=>((scarfjointref03_square.f k a0 1125899906842624 0).bind fun t399=>(scarfjointref03_Refute.l0 k a0 t396 (([t399] : List (List (List Int)))) false)))) = some (r1,r2):=H
  have A5:=Aside0.mk A50
  clear A50
  by_cases c6 : t393 = true
  ·subst c6
   have H1 : (some (([] : List (S55)),10)) = some (r1,r2):=by rw [if_pos rfl] at H;exact H
   clear H
   have H:=H1
   clear H1
   simp only [Option.some.injEq,Prod.mk.injEq] at H
   obtain ⟨rfl,rfl⟩:=H
   go_enter Try.func23,Try.ntmps23
   go_wp2_with (first|(go_at_call 31;(with_reducible refine (scarfjointref03_Valid.calls k a0 _ _ l1 t391 _ ?side1 ?side2 A3.out).mono ?_);(case side1=>repeat (first|exact HR1.out|(with_reducible refine Kd.C_alloc ?_ _)|(with_reducible refine Kd.C_drewN ?_ _)|(with_reducible refine Kd.C_drew ?_)));(case side2=>exact HC1.out);rintro e w7 ⟨rfl,hb⟩;have n0_:=Aside0.mk (below_step (by repeat (first|(with_reducible first|exact HB.out|apply below_alloc|apply pw_below_drewN|apply below_drew1)|exact HB.out)) hb);clear HB;have HB:=n0_;clear n0_;(try clear hb);(try clear hb2);(try clear hk);(try clear hi))|(go_at_call 44;(with_reducible refine (scarfjointref03_distances.calls k a0 _ _ l1 t392 true _ ?side1 ?side2 A5.out).mono ?_);(case side1=>repeat (first|exact (Kd.C_below HR1.out HB.out)|(with_reducible refine Kd.C_alloc ?_ _)|(with_reducible refine Kd.C_drewN ?_ _)|(with_reducible refine Kd.C_drew ?_)));(case side2=>exact HC1.out);rintro e w8 ⟨v394,rfl,ho0,hb⟩;have n0_:=Aside0.mk (Kd.N_lower (Kd.N_mono (ok':=fun k_=>True) (Kd.S_N (Kd.S_bound ho0)) (fun k_ hk_=>trivial)) (below_size (by repeat (first|(with_reducible first|exact HB.out|apply below_alloc|apply pw_below_drewN|apply below_drew1)|exact HB.out))));have n1_:=Aside0.mk (below_step (by repeat (first|(with_reducible first|exact HB.out|apply below_alloc|apply pw_below_drewN|apply below_drew1)|exact HB.out)) hb);clear HB;have HO395:=n0_;have HB:=n1_;clear n0_ n1_;(try clear hb);(try clear hb2);(try clear hk);(try clear hi);(try clear ho0)))
   go_ret2
   exact ⟨_,by first|rfl|(simp [errW_none,errW_some] <;> rfl)|(simp [*,errW_none,errW_some] <;> rfl),by first|exact Kd.R_nil _ _ _ _ _|exact Kd.N_nil _ _ _ _ _|exact Kd.V_nil _ _ _ _ _|exact Kd.Q_nil _ _ _ _ _|exact Kd.S_nil _ _ _ _ _,by repeat (first|(with_reducible first|exact HB.out|apply below_alloc|apply pw_below_drewN|apply below_drew1)|exact HB.out)⟩
  ·replace c6:=Bool.eq_false_iff.mpr c6
   subst c6
   have H1 : ((scarfjointref03_arcs.f k l1).bind fun t396=>((scarfjointref03_square.f k a0 1125899906842624 0).bind fun t399=>(scarfjointref03_Refute.l0 k a0 t396 (([t399] : List (List (List Int)))) false))) = some (r1,r2):=by rw [if_neg (show ¬ (false = true) by decide)] at H;exact H
   clear H
   have H:=H1
   clear H1
   replace H:=Option.bind_eq_some_iff.mp H
   obtain ⟨t396,A90,H⟩:=H
   replace H : ((scarfjointref03_square.f k a0 1125899906842624 0).bind fun t399=>(scarfjointref03_Refute.l0 k a0 t396 (([t399] : List (List (List Int)))) false)) = some (r1,r2):=H
   have A9:=Aside0.mk A90
   clear A90
   replace H:=Option.bind_eq_some_iff.mp H
   obtain ⟨t399,A100,H⟩:=H
   replace H : (scarfjointref03_Refute.l0 k a0 t396 (([t399] : List (List (List Int)))) false) = some (r1,r2):=H
   have A10:=Aside0.mk A100
   clear A100
   obtain ⟨y402,hy402⟩ : ∃ y_ : List (List (List Int)),y_ = (([t399] : List (List (List Int)))):=⟨_,rfl⟩
   replace H : (scarfjointref03_Refute.l0 k a0 t396 y402 false) = some (r1,r2):=by first|(rw [hy402];with_reducible exact H)|(have H2_:=(Option.bind_some _ _).symm.trans H;rw [hy402];with_reducible exact H2_)|(have H2_:=(Option.bind_some _ _).symm.trans H;with_reducible exact H2_)|with_reducible exact H|(rw [hy402];exact H)|exact H
   have Ny402:=Aside0.mk hy402
   clear hy402
   have H':=Aside0.mk H
   clear H
   go_enter Try.func23,Try.ntmps23
   go_wp2_with (first|(go_at_call 31;(with_reducible refine (scarfjointref03_Valid.calls k a0 _ _ l1 t391 _ ?side1 ?side2 A3.out).mono ?_);(case side1=>repeat (first|exact HR1.out|(with_reducible refine Kd.C_alloc ?_ _)|(with_reducible refine Kd.C_drewN ?_ _)|(with_reducible refine Kd.C_drew ?_)));(case side2=>exact HC1.out);rintro e w11 ⟨rfl,hb⟩;have n0_:=Aside0.mk (below_step (by repeat (first|(with_reducible first|exact HB.out|apply below_alloc|apply pw_below_drewN|apply below_drew1)|exact HB.out)) hb);clear HB;have HB:=n0_;clear n0_;(try clear hb);(try clear hb2);(try clear hk);(try clear hi))|(go_at_call 44;(with_reducible refine (scarfjointref03_distances.calls k a0 _ _ l1 t392 false _ ?side1 ?side2 A5.out).mono ?_);(case side1=>repeat (first|exact (Kd.C_below HR1.out HB.out)|(with_reducible refine Kd.C_alloc ?_ _)|(with_reducible refine Kd.C_drewN ?_ _)|(with_reducible refine Kd.C_drew ?_)));(case side2=>exact HC1.out);rintro e w12 ⟨v394,rfl,ho0,hb⟩;have n0_:=Aside0.mk (Kd.N_lower (Kd.N_mono (ok':=fun k_=>True) (Kd.S_N (Kd.S_bound ho0)) (fun k_ hk_=>trivial)) (below_size (by repeat (first|(with_reducible first|exact HB.out|apply below_alloc|apply pw_below_drewN|apply below_drew1)|exact HB.out))));have n1_:=Aside0.mk (below_step (by repeat (first|(with_reducible first|exact HB.out|apply below_alloc|apply pw_below_drewN|apply below_drew1)|exact HB.out)) hb);clear HB;have HO395:=n0_;have HB:=n1_;clear n0_ n1_;(try clear hb);(try clear hb2);(try clear hk);(try clear hi);(try clear ho0))|(go_at_call 45;(with_reducible refine (scarfjointref03_arcs.calls k _ _ l1 t396 _ ?side1 ?side2 A9.out).mono ?_);(case side1=>repeat (first|exact (Kd.C_below HR1.out HB.out)|(with_reducible refine Kd.C_alloc ?_ _)|(with_reducible refine Kd.C_drewN ?_ _)|(with_reducible refine Kd.C_drew ?_)));(case side2=>exact HC1.out);rintro e w13 ⟨v397,rfl,ho0,hb⟩;have n0_:=Aside0.mk (Kd.N_elder' (by (with_reducible repeat (first|apply Kd.N_alloc|apply Kd.N_drewN|apply Kd.N_drew));exact HO395.out) (Kd.R_base ho0) hb);have n1_:=Aside0.mk (Kd.R_lower ho0 (below_size (by repeat (first|(with_reducible first|exact HB.out|apply below_alloc|apply pw_below_drewN|apply below_drew1)|exact HB.out))));have n2_:=Aside0.mk (below_step (by repeat (first|(with_reducible first|exact HB.out|apply below_alloc|apply pw_below_drewN|apply below_drew1)|exact HB.out)) hb);clear HO395;clear HB;have HO395:=n0_;have HO398:=n1_;have HB:=n2_;clear n0_ n1_ n2_;(try clear hb);(try clear hb2);(try clear hk);(try clear hi);(try clear ho0))|(go_at_call 51;(with_reducible refine (scarfjointref03_square.calls k a0 1125899906842624 0 t399 _ A10.out).mono ?_);rintro e w14 ⟨v400,rfl,ho0,hb⟩;have n0_:=Aside0.mk (Kd.N_elder' (by (with_reducible repeat (first|apply Kd.N_alloc|apply Kd.N_drewN|apply Kd.N_drew));exact HO395.out) (Kd.S_base ho0) hb);have n1_:=Aside0.mk (Kd.R_below (by (with_reducible repeat (first|apply Kd.R_alloc|apply Kd.R_drewN|apply Kd.R_drew));exact HO398.out) hb);have n2_:=Aside0.mk (Kd.N_lower (Kd.N_mono (ok':=fun k_=>some k_ ≠ (v394 : Value).ownBlock ∧ some k_ ≠ (v397 : Value).ownBlock) (Kd.S_N (Kd.S_bound ho0)) (fun k_ hk_=>⟨(Kd.fresh' (Kd.N_lt (by (with_reducible repeat (first|apply Kd.N_alloc|apply Kd.N_drewN|apply Kd.N_drew));exact HO395.out)) k_ hk_.2.1),(Kd.fresh' (Kd.R_lt (by (with_reducible repeat (first|apply Kd.R_alloc|apply Kd.R_drewN|apply Kd.R_drew));exact HO398.out)) k_ hk_.2.1)⟩)) (below_size (by repeat (first|(with_reducible first|exact HB.out|apply below_alloc|apply pw_below_drewN|apply below_drew1)|exact HB.out))));have n3_:=Aside0.mk (below_step (by repeat (first|(with_reducible first|exact HB.out|apply below_alloc|apply pw_below_drewN|apply below_drew1)|exact HB.out)) hb);clear HO395;clear HO398;clear HB;have HO395:=n0_;have HO398:=n1_;have HO401:=n2_;have HB:=n3_;clear n0_ n1_ n2_ n3_;(try clear hb);(try clear hb2);(try clear hk);(try clear hi);(try clear ho0);obtain ⟨Ao15,co15,eo15⟩:=Kd.N_slice HO401.out;subst eo15)|((with_reducible refine gate_dst (N:=39) rfl ?_);refine Kd.N_lit (Kd.slice 36 (Kd.slice 3 (Kd.int .i64))) _ 73 ?hg (N':=39) ?hd (xs:=([t399] : List (List (List Int)))) (inner:=[.slice Ao15 t399.length co15]) (ok:=(fun k_=>some k_ ≠ (v394 : Value).ownBlock ∧ some k_ ≠ (v397 : Value).ownBlock)) (okp:=(fun k_=>some k_ ≠ (v394 : Value).ownBlock ∧ some k_ ≠ (v397 : Value).ownBlock)) ?hr ?hp (fun _ hk=>hk) ((show ∀ k_,w14.heap.size ≤ k_ → (fun k_=>some k_ ≠ (v394 : Value).ownBlock ∧ some k_ ≠ (v397 : Value).ownBlock) k_ from fun k_ hk=>⟨Kd.fresh' (Kd.N_lt (by (with_reducible repeat (first|apply Kd.N_alloc|apply Kd.N_drewN|apply Kd.N_drew));exact HO395.out)) k_ hk,Kd.fresh' (Kd.R_lt (by (with_reducible repeat (first|apply Kd.R_alloc|apply Kd.R_drewN|apply Kd.R_drew));exact HO398.out)) k_ hk⟩) _ (Nat.le_refl _)) (Below.refl _ _) (Nat.le_refl _) (by simp) ?_;(case hd=>rfl);(case hg=>rfl);(case hr=>first|(go_simp;done)|(go_simp;rfl));(case hp=>exact (Reps.one (show Kd.FK (Kd.slice 36 (Kd.slice 3 (Kd.int .i64))) _ _ t399 [.slice Ao15 t399.length co15] from (Kd.FK_slice_mk (Kd.N_reads' (Kd.N_mono (ok':=(fun k_=>some k_ ≠ (v394 : Value).ownBlock ∧ some k_ ≠ (v397 : Value).ownBlock)) (HO401.out) (fun k_ hk=>⟨hk.1,hk.2⟩))).2.1 (Kd.N_F (Kd.N_mono (ok':=(fun k_=>some k_ ≠ (v394 : Value).ownBlock ∧ some k_ ≠ (v397 : Value).ownBlock)) (HO401.out) (fun k_ hk=>⟨hk.1,hk.2⟩))))) (Reps.none _ _)));intro v403 w16 ho17 hb hg_ hnew_;clear hg_ hnew_;(first|rw [← Ny402.out] at ho17|(simp only [Int.reduceToNat] at ho17;rw [← Ny402.out] at ho17));have n0_:=Aside0.mk (Kd.N_elder' (by (with_reducible repeat (first|apply Kd.N_alloc|apply Kd.N_drewN|apply Kd.N_drew));exact HO395.out) (Kd.N_base ho17) hb);have n1_:=Aside0.mk (Kd.R_below (by (with_reducible repeat (first|apply Kd.R_alloc|apply Kd.R_drewN|apply Kd.R_drew));exact HO398.out) hb);have n2_:=Aside0.mk (Kd.N_lower ho17 (below_size (by repeat (first|(with_reducible first|exact HB.out|apply below_alloc|apply pw_below_drewN|apply below_drew1)|exact HB.out))));have n3_:=Aside0.mk (below_step (by repeat (first|(with_reducible first|exact HB.out|apply below_alloc|apply pw_below_drewN|apply below_drew1)|exact HB.out)) hb);clear HO395;clear HO398;clear HB;clear HO401;have HO395:=n0_;have HO398:=n1_;have HO404:=n2_;have HB:=n3_;clear n0_ n1_ n2_ n3_;clear hb ho17))
   go_loopg [10,11] k (fun kq v10 v11 w'=>∃ (x10_1 : List (List (List Int))) (x11_1 : Bool),v11 = .bool x11_1 ∧ Aside0 (scarfjointref03_Refute.l0 kq a0 t396 x10_1 x11_1 = some (r1,r2)) ∧ Aside0 (kq ≤ k) ∧ Aside0 (Kd.R k79 79 w' w.heap.size (fun _=>True) v397 t396) ∧ Aside0 (Kd.N (Kd.slice 36 (Kd.slice 3 (Kd.int .i64))) 73 w' w.heap.size (fun k_=>some k_ ≠ (v397 : Value).ownBlock) v10 x10_1) ∧ Aside0 (Below w.heap.size w w'))
   case atStart=>exact ⟨(y402),(false),(by first|rfl|(simp;done)|(simp [*];done)),H',⟨Nat.le_refl _⟩,⟨by (with_reducible repeat (first|apply Kd.R_alloc|apply Kd.R_drewN|apply Kd.R_drew));exact HO398.out⟩,⟨by (with_reducible repeat (first|apply Kd.N_alloc|apply Kd.N_drewN|apply Kd.N_drew));exact Kd.N_mono HO404.out (fun _ hk=>hk.2)⟩,⟨by repeat (first|(with_reducible first|exact HB.out|apply below_alloc|apply pw_below_drewN|apply below_drew1)|exact HB.out)⟩⟩
   case round =>
    clear H'
    try clear c1
    try clear c2
    try clear p2
    try clear c4
    try clear c4b0
    try clear c4b1
    try clear c6
    obtain ⟨x10_1,x11_1,rfl,HA,HK1,HO_9,HO_10,HB⟩:=hrel
    cases gk with
    | zero => exact absurd HA.out (by simp [scarfjointref03_Refute.l0])
    | succ k1 =>
     have H:=HA.out
     clear HA
     simp only [scarfjointref03_Refute.l0] at H
     by_cases c18 : x11_1 = true
     ·subst c18
      have H1 : (scarfjointref03_Refute.l2 k1 t396 x10_1 ([] : List (S55)) (-1) (-1) 0 (wrap64 ((x10_1.length : Int) - 2))) = some (r1,r2):=by rw [if_pos rfl] at H;exact H
      clear H
      have H:=H1
      clear H1
      have H':=Aside0.mk H
      clear H
      obtain ⟨Ao19,co19,eo19⟩:=Kd.N_slice HO_10.out
      subst eo19
      go_wp2
      go_loopg [14,15,16,17,18] k1 (fun kq v14 v15 v16 v17 v18 w'=>∃ (x14_2 : List (S55)) (x15_2 : Int) (x16_2 : Int) (x17_2 : Int) (x18_2 : Int),v15 = .int .i64 x15_2 ∧ v16 = .int .i64 x16_2 ∧ v17 = .int .i64 x17_2 ∧ v18 = .int .i64 x18_2 ∧ Aside0 (scarfjointref03_Refute.l2 kq t396 x10_1 x14_2 x15_2 x16_2 x17_2 x18_2 = some (r1,r2)) ∧ Aside0 (kq ≤ k1) ∧ Aside0 (Kd.R k79 79 w' w.heap.size (fun _=>True) v397 t396) ∧ Aside0 (Kd.N (Kd.slice 36 (Kd.slice 3 (Kd.int .i64))) 73 w' w.heap.size (fun k_=>some k_ ≠ (v397 : Value).ownBlock ∧ some k_ ≠ (v14 : Value).ownBlock) (.slice Ao19 x10_1.length co19) x10_1) ∧ Aside0 (Kd.R k55 55 w' w.heap.size (fun _=>True) v14 x14_2) ∧ Aside0 (Below w.heap.size w w'))
      case atStart=>exact ⟨(([] : List (S55))),((-1)),((-1)),(0),(wrap64 ((x10_1.length : Int) - 2)),(by first|rfl|(simp;done)|(simp [*];done)),(by first|rfl|(simp;done)|(simp [*];done)),(by first|rfl|(simp;done)|(simp [*];done)),(by first|rfl|(simp;done)|(simp [*];done)),H',⟨Nat.le_refl _⟩,⟨by (with_reducible repeat (first|apply Kd.R_alloc|apply Kd.R_drewN|apply Kd.R_drew));exact HO_9.out⟩,⟨by (with_reducible repeat (first|apply Kd.N_alloc|apply Kd.N_drewN|apply Kd.N_drew));exact Kd.N_mono HO_10.out (fun _ hk=>⟨hk,(by simp [Value.ownBlock])⟩)⟩,⟨by first|exact Kd.R_nil _ _ _ _ _|exact Kd.N_nil _ _ _ _ _|exact Kd.V_nil _ _ _ _ _|exact Kd.Q_nil _ _ _ _ _|exact Kd.S_nil _ _ _ _ _⟩,⟨by repeat (first|(with_reducible first|exact HB.out|apply below_alloc|apply pw_below_drewN|apply below_drew1)|exact HB.out)⟩⟩
      case round =>
       clear H'
       try clear c1
       try clear c2
       try clear p2
       try clear c4
       try clear c4b0
       try clear c4b1
       try clear c6
       try clear p6
       try clear c18
       try clear p2
       obtain ⟨x14_2,x15_2,x16_2,x17_2,x18_2,rfl,rfl,rfl,rfl,HA,HK2,HO_9,HO_10,HO_14,HB⟩:=hrel
       cases gk with
       | zero => exact absurd HA.out (by simp [scarfjointref03_Refute.l2])
       | succ k2 =>
        have H:=HA.out
        clear HA
        simp only [scarfjointref03_Refute.l2] at H
        by_cases c20 : x18_2 ≥ 0
        ·rw [if_pos c20] at H
         have c20b0 : decide (0 ≤ x18_2) = true:=decide_eq_true c20
         clear c20
         have H':=Aside0.mk H
         clear H
         go_wp2
         go_loopg [14,15,16,17,19] k2 (fun kq v14 v15 v16 v17 v19 w'=>∃ (x14_3 : List (S55)) (x15_3 : Int) (x16_3 : Int) (x17_3 : Int) (x19_3 : Int),v15 = .int .i64 x15_3 ∧ v16 = .int .i64 x16_3 ∧ v17 = .int .i64 x17_3 ∧ v19 = .int .i64 x19_3 ∧ Aside0 (scarfjointref03_Refute.l3 kq t396 x10_1 x14_3 x15_3 x16_3 x17_3 x18_2 x19_3 = some (r1,r2)) ∧ Aside0 (kq ≤ k2) ∧ Aside0 (Kd.R k79 79 w' w.heap.size (fun _=>True) v397 t396) ∧ Aside0 (Kd.N (Kd.slice 36 (Kd.slice 3 (Kd.int .i64))) 73 w' w.heap.size (fun k_=>some k_ ≠ (v397 : Value).ownBlock ∧ some k_ ≠ (v14 : Value).ownBlock) (.slice Ao19 x10_1.length co19) x10_1) ∧ Aside0 (Kd.R k55 55 w' w.heap.size (fun _=>True) v14 x14_3) ∧ Aside0 (Below w.heap.size w w'))
         case atStart=>exact ⟨(x14_2),(x15_2),(x16_2),(x17_2),(0),(by first|rfl|(simp;done)|(simp [*];done)),(by first|rfl|(simp;done)|(simp [*];done)),(by first|rfl|(simp;done)|(simp [*];done)),(by first|rfl|(simp;done)|(simp [*];done)),H',⟨Nat.le_refl _⟩,⟨by (with_reducible repeat (first|apply Kd.R_alloc|apply Kd.R_drewN|apply Kd.R_drew));exact HO_9.out⟩,⟨by (with_reducible repeat (first|apply Kd.N_alloc|apply Kd.N_drewN|apply Kd.N_drew));exact HO_10.out⟩,⟨by (with_reducible repeat (first|apply Kd.R_alloc|apply Kd.R_drewN|apply Kd.R_drew));exact HO_14.out⟩,⟨by repeat (first|(with_reducible first|exact HB.out|apply below_alloc|apply pw_below_drewN|apply below_drew1)|exact HB.out)⟩⟩
         case round =>
          clear H'
          try clear c1
          try clear c2
          try clear p2
          try clear c4
          try clear c4b0
          try clear c4b1
          try clear c6
          try clear p6
          try clear c18
          try clear c20
          try clear c20b0
          try clear p2
          try clear p6
          obtain ⟨x14_3,x15_3,x16_3,x17_3,x19_3,rfl,rfl,rfl,rfl,HA,HK3,HO_9,HO_10,HO_14,HB⟩:=hrel
          cases gk with
          | zero => exact absurd HA.out (by simp [scarfjointref03_Refute.l3])
          | succ k3 =>
           have H:=HA.out
           clear HA
           simp only [scarfjointref03_Refute.l3] at H
           by_cases c21 : x19_3 < (t396.length : Int)
           ·rw [if_pos c21] at H
            have c21b0 : decide (x19_3 < (t396.length : Int)) = true:=decide_eq_true c21
            clear c21
            have HC22:=Aside0.mk H
            clear H
            obtain ⟨Ao23,co23,eo23⟩:=Kd.R_slice HO_9.out
            subst eo23
            go_upto_region 25 with (fail)
            go_cut [94] (fun v94 wc=>∃ (kq : Nat) (x94_21 : Bool),v94 = .bool x94_21 ∧ Aside0 (scarfjointref03_Refute.j4 kq t396 x10_1 x14_3 x15_3 x16_3 x17_3 x18_2 x19_3 x94_21 = some (r1,r2)) ∧ Aside0 (kq ≤ k3) ∧ Aside0 (Kd.R k79 79 wc w.heap.size (fun _=>True) (.slice Ao23 t396.length co23) t396) ∧ Aside0 (Kd.N (Kd.slice 36 (Kd.slice 3 (Kd.int .i64))) 73 wc w.heap.size (fun k_=>some k_ ≠ ((.slice Ao23 t396.length co23) : Value).ownBlock ∧ some k_ ≠ (u14 : Value).ownBlock) (.slice Ao19 x10_1.length co19) x10_1) ∧ Aside0 (Kd.R k55 55 wc w.heap.size (fun _=>True) u14 x14_3) ∧ Aside0 (Below w.heap.size w wc))
            case first =>
             have H:=HC22.out
             clear HC22
             by_cases c24 : x15_3 ≥ 0
             ·rw [if_pos c24] at H
              have c24b0 : decide (0 ≤ x15_3) = true:=decide_eq_true c24
              clear c24
              (first|rw [c24b0]|(simp only [i64_w,i32_w];rw [c24b0])|skip)
              by_cases c25 : 0 ≤ x19_3
              ·rw [if_pos c25] at H
               have c25b0 : decide (0 ≤ x19_3) = true:=decide_eq_true c25
               clear c25
               have H':=Aside0.mk H
               clear H
               have p414 : 0 ≤ (x19_3 : Int):=of_decide_eq_true (by first|(with_reducible assumption)|assumption)
               have q414 : x19_3 < (t396.length : Int):=of_decide_eq_true (by first|(with_reducible assumption)|assumption)
               obtain ⟨ad414,e414,hx414_0,hx414_1,hx414_2,hx414_3,hx414_4⟩:=at_T79 (Kd.R_reads' HO_9.out).2.2 x19_3 p414 q414
               cases e414
               replace p414:=eq_true p414
               replace q414:=eq_true q414
               go_wp2
               go_meet
               case rel=>exact ⟨_,((((rd_T79 t396 x19_3).f1) != x16_3)),(by first|rfl|(simp;done)|(simp [*];done)),H',⟨by have:=HK1.out;have:=HK2.out;have:=HK3.out;first|omega|exact Nat.le_refl _⟩,⟨by (with_reducible repeat (first|apply Kd.R_alloc|apply Kd.R_drewN|apply Kd.R_drew));exact HO_9.out⟩,⟨by (with_reducible repeat (first|apply Kd.N_alloc|apply Kd.N_drewN|apply Kd.N_drew));exact HO_10.out⟩,⟨by (with_reducible repeat (first|apply Kd.R_alloc|apply Kd.R_drewN|apply Kd.R_drew));exact HO_14.out⟩,⟨by repeat (first|(with_reducible first|exact HB.out|apply below_alloc|apply pw_below_drewN|apply below_drew1)|exact HB.out)⟩⟩
              ·rw [if_neg c25] at H
               exact absurd H (by simp)
             ·rw [if_neg c24] at H
              have c24b0 : decide (0 ≤ x15_3) = false:=decide_eq_false c24
              clear c24
              (first|rw [c24b0]|(simp only [i64_w,i32_w];rw [c24b0])|skip)
              have H':=Aside0.mk H
              clear H
              go_wp2
              go_meet
              case rel=>exact ⟨_,(false),(by first|rfl|(simp;done)|(simp [*];done)),H',⟨by have:=HK1.out;have:=HK2.out;have:=HK3.out;first|omega|exact Nat.le_refl _⟩,⟨by (with_reducible repeat (first|apply Kd.R_alloc|apply Kd.R_drewN|apply Kd.R_drew));exact HO_9.out⟩,⟨by (with_reducible repeat (first|apply Kd.N_alloc|apply Kd.N_drewN|apply Kd.N_drew));exact HO_10.out⟩,⟨by (with_reducible repeat (first|apply Kd.R_alloc|apply Kd.R_drewN|apply Kd.R_drew));exact HO_14.out⟩,⟨by repeat (first|(with_reducible first|exact HB.out|apply below_alloc|apply pw_below_drewN|apply below_drew1)|exact HB.out)⟩⟩
            case rest =>
             clear HC22
             try clear c1
             try clear c2
             try clear p2
             try clear c4
             try clear c4b0
             try clear c4b1
             try clear p4
             try clear q4
             try clear hx4
             try clear c6
             try clear p6
             try clear c18
             try clear c20
             try clear c20b0
             try clear c21
             try clear c21b0
             try clear c23
             try clear c24
             try clear c24b0
             try clear c25
             try clear c25b0
             try clear hx414_0
             try clear hx414_1
             try clear hx414_2
             try clear hx414_3
             try clear hx414_4
             try clear p2
             try clear p414
             try clear p6
             try clear q414
             obtain ⟨kq,x94_21,rfl,HA,HJ21,HO_9,HO_10,HO_14,HB⟩:=hcut
             cases kq with
             | zero => exact absurd HA.out (by simp [scarfjointref03_Refute.j4])
             | succ kj21 =>
              have H:=HA.out
              clear HA
              simp only [scarfjointref03_Refute.j4] at H
              by_cases c26 : x94_21 = true
              ·subst c26
               have H1 : (scarfjointref03_Refute.l3 kj21 t396 x10_1 x14_3 x15_3 x16_3 x17_3 x18_2 (wrap64 (x19_3 + 1))) = some (r1,r2):=by rw [if_pos rfl] at H;exact H
               clear H
               have H:=H1
               clear H1
               have H':=Aside0.mk H
               clear H
               go_wp2
               go_roundg kj21
               case measure=>have:=HK1.out;have:=HK2.out;have:=HK3.out;have:=HJ21.out;omega
               case rel=>exact ⟨(x14_3),(x15_3),(x16_3),(x17_3),(wrap64 (x19_3 + 1)),(by first|rfl|(simp;done)|(simp [*];done)),(by first|rfl|(simp;done)|(simp [*];done)),(by first|rfl|(simp;done)|(simp [*];done)),(by first|rfl|(simp;done)|(simp [*];done)),H',⟨by have:=HK1.out;have:=HK2.out;have:=HK3.out;have:=HJ21.out;omega⟩,⟨by (with_reducible repeat (first|apply Kd.R_alloc|apply Kd.R_drewN|apply Kd.R_drew));exact HO_9.out⟩,⟨by (with_reducible repeat (first|apply Kd.N_alloc|apply Kd.N_drewN|apply Kd.N_drew));exact HO_10.out⟩,⟨by (with_reducible repeat (first|apply Kd.R_alloc|apply Kd.R_drewN|apply Kd.R_drew));exact HO_14.out⟩,⟨by repeat (first|(with_reducible first|exact HB.out|apply below_alloc|apply pw_below_drewN|apply below_drew1)|exact HB.out)⟩⟩
              ·replace c26:=Bool.eq_false_iff.mpr c26
               subst c26
               have H1 : (if x15_3 < 0 then (if 0 ≤ x19_3 then (if x19_3 < (t396.length : Int) then (if 0 ≤ x18_2 then (if x18_2 < (x10_1.length : Int) then (if 0 ≤ ((rd_T79 t396 x19_3).f2) then (if ((rd_T79 t396 x19_3).f2) < ((rd_L6 x10_1 x18_2).length : Int) then (if 0 ≤ ((rd_T79 t396 x19_3).f1) then (if ((rd_T79 t396 x19_3).f1) < ((rd_L5 (rd_L6 x10_1 x18_2) ((rd_T79 t396 x19_3).f2)).length : Int) then (if (rd (rd_L5 (rd_L6 x10_1 x18_2) ((rd_T79 t396 x19_3).f2)) ((rd_T79 t396 x19_3).f1)) < 1125899906842624 then (if (wrap64 ((wrap64 (x17_3 + ((rd_T79 t396 x19_3).f3))) + (rd (rd_L5 (rd_L6 x10_1 x18_2) ((rd_T79 t396 x19_3).f2)) ((rd_T79 t396 x19_3).f1)))) < 0 then (if x14_3.length < 8796093022208 then (scarfjointref03_Refute.l2 kj21 t396 x10_1 (x14_3 ++ [(⟨(rd_T79 t396 x19_3).f0.f0,(rd_T79 t396 x19_3).f0.f1⟩ : S55)]) ((rd_T79 t396 x19_3).f1) ((rd_T79 t396 x19_3).f2) (wrap64 (x17_3 + ((rd_T79 t396 x19_3).f3))) (wrap64 (x18_2 - 1))) else (none)) else (scarfjointref03_Refute.l3 kj21 t396 x10_1 x14_3 x15_3 x16_3 x17_3 x18_2 (wrap64 (x19_3 + 1)))) else (scarfjointref03_Refute.l3 kj21 t396 x10_1 x14_3 x15_3 x16_3 x17_3 x18_2 (wrap64 (x19_3 + 1)))) else (none)) else (none)) else (none)) else (none)) else (none)) else (none)) else (none)) else (none)) else (if 0 ≤ x18_2 then (if x18_2 < (x10_1.length : Int) then (if 0 ≤ x19_3 then (if x19_3 < (t396.length : Int) then (if 0 ≤ ((rd_T79 t396 x19_3).f2) then (if ((rd_T79 t396 x19_3).f2) < ((rd_L6 x10_1 x18_2).length : Int) then (if 0 ≤ x15_3 then (if x15_3 < ((rd_L5 (rd_L6 x10_1 x18_2) ((rd_T79 t396 x19_3).f2)).length : Int) then (if (rd (rd_L5 (rd_L6 x10_1 x18_2) ((rd_T79 t396 x19_3).f2)) x15_3) < 1125899906842624 then (if (wrap64 ((wrap64 (x17_3 + ((rd_T79 t396 x19_3).f3))) + (rd (rd_L5 (rd_L6 x10_1 x18_2) ((rd_T79 t396 x19_3).f2)) x15_3))) < 0 then (if x14_3.length < 8796093022208 then (scarfjointref03_Refute.l2 kj21 t396 x10_1 (x14_3 ++ [(⟨(rd_T79 t396 x19_3).f0.f0,(rd_T79 t396 x19_3).f0.f1⟩ : S55)]) x15_3 ((rd_T79 t396 x19_3).f2) (wrap64 (x17_3 + ((rd_T79 t396 x19_3).f3))) (wrap64 (x18_2 - 1))) else (none)) else (scarfjointref03_Refute.l3 kj21 t396 x10_1 x14_3 x15_3 x16_3 x17_3 x18_2 (wrap64 (x19_3 + 1)))) else (scarfjointref03_Refute.l3 kj21 t396 x10_1 x14_3 x15_3 x16_3 x17_3 x18_2 (wrap64 (x19_3 + 1)))) else (none)) else (none)) else (none)) else (none)) else (none)) else (none)) else (none)) else (none))) = some (r1,r2):=by rw [if_neg (show ¬ (false = true) by decide)] at H;exact H
               clear H
               have H:=H1
               clear H1
               by_cases c27 : x15_3 < 0
               ·rw [if_pos c27] at H
                have c27b0 : decide (x15_3 < 0) = true:=decide_eq_true c27
                clear c27
                by_cases c28 : 0 ≤ x19_3
                ·rw [if_pos c28] at H
                 have c28b0 : decide (0 ≤ x19_3) = true:=decide_eq_true c28
                 clear c28
                 by_cases c29 : x19_3 < (t396.length : Int)
                 ·rw [if_pos c29] at H
                  have c29b0 : decide (x19_3 < (t396.length : Int)) = true:=decide_eq_true c29
                  clear c29
                  by_cases c30 : 0 ≤ x18_2
                  ·rw [if_pos c30] at H
                   have c30b0 : decide (0 ≤ x18_2) = true:=decide_eq_true c30
                   clear c30
                   by_cases c31 : x18_2 < (x10_1.length : Int)
                   ·rw [if_pos c31] at H
                    have c31b0 : decide (x18_2 < (x10_1.length : Int)) = true:=decide_eq_true c31
                    clear c31
                    by_cases c32 : 0 ≤ ((rd_T79 t396 x19_3).f2)
                    ·rw [if_pos c32] at H
                     have c32b0 : decide (0 ≤ ((rd_T79 t396 x19_3).f2)) = true:=decide_eq_true c32
                     clear c32
                     by_cases c33 : ((rd_T79 t396 x19_3).f2) < ((rd_L6 x10_1 x18_2).length : Int)
                     ·rw [if_pos c33] at H
                      have c33b0 : decide (((rd_T79 t396 x19_3).f2) < ((rd_L6 x10_1 x18_2).length : Int)) = true:=decide_eq_true c33
                      clear c33
                      by_cases c34 : 0 ≤ ((rd_T79 t396 x19_3).f1)
                      ·rw [if_pos c34] at H
                       have c34b0 : decide (0 ≤ ((rd_T79 t396 x19_3).f1)) = true:=decide_eq_true c34
                       clear c34
                       by_cases c35 : ((rd_T79 t396 x19_3).f1) < ((rd_L5 (rd_L6 x10_1 x18_2) ((rd_T79 t396 x19_3).f2)).length : Int)
                       ·rw [if_pos c35] at H
                        have c35b0 : decide (((rd_T79 t396 x19_3).f1) < ((rd_L5 (rd_L6 x10_1 x18_2) ((rd_T79 t396 x19_3).f2)).length : Int)) = true:=decide_eq_true c35
                        clear c35
                        by_cases c36 : (rd (rd_L5 (rd_L6 x10_1 x18_2) ((rd_T79 t396 x19_3).f2)) ((rd_T79 t396 x19_3).f1)) < 1125899906842624
                        ·rw [if_pos c36] at H
                         have c36b0 : decide ((rd (rd_L5 (rd_L6 x10_1 x18_2) ((rd_T79 t396 x19_3).f2)) ((rd_T79 t396 x19_3).f1)) < 1125899906842624) = true:=decide_eq_true c36
                         clear c36
                         by_cases c37 : (wrap64 ((wrap64 (x17_3 + ((rd_T79 t396 x19_3).f3))) + (rd (rd_L5 (rd_L6 x10_1 x18_2) ((rd_T79 t396 x19_3).f2)) ((rd_T79 t396 x19_3).f1)))) < 0
                         ·rw [if_pos c37] at H
                          have c37b0 : decide ((wrap64 ((wrap64 (x17_3 + ((rd_T79 t396 x19_3).f3))) + (rd (rd_L5 (rd_L6 x10_1 x18_2) ((rd_T79 t396 x19_3).f2)) ((rd_T79 t396 x19_3).f1)))) < 0) = true:=decide_eq_true c37
                          clear c37
                          by_cases c38 : x14_3.length < 8796093022208
                          ·rw [if_pos c38] at H
                           have LMc38:=Aside0.mk c38
                           clear c38
                           obtain ⟨y422,hy422⟩ : ∃ y_ : List (S55),y_ = (x14_3 ++ [(⟨(rd_T79 t396 x19_3).f0.f0,(rd_T79 t396 x19_3).f0.f1⟩ : S55)]):=⟨_,rfl⟩
                           replace H : (scarfjointref03_Refute.l2 kj21 t396 x10_1 y422 ((rd_T79 t396 x19_3).f1) ((rd_T79 t396 x19_3).f2) (wrap64 (x17_3 + ((rd_T79 t396 x19_3).f3))) (wrap64 (x18_2 - 1))) = some (r1,r2):=by first|(rw [hy422];with_reducible exact H)|(have H2_:=(Option.bind_some _ _).symm.trans H;rw [hy422];with_reducible exact H2_)|(have H2_:=(Option.bind_some _ _).symm.trans H;with_reducible exact H2_)|with_reducible exact H|(rw [hy422];exact H)|exact H
                           have Ny422:=Aside0.mk hy422
                           clear hy422
                           have H':=Aside0.mk H
                           clear H
                           have p415 : 0 ≤ (x19_3 : Int):=of_decide_eq_true (by first|(with_reducible assumption)|assumption)
                           have q415 : x19_3 < (t396.length : Int):=of_decide_eq_true (by first|(with_reducible assumption)|assumption)
                           obtain ⟨ad415,e415,hx415_0,hx415_1,hx415_2,hx415_3,hx415_4⟩:=at_T79 (Kd.R_reads' HO_9.out).2.2 x19_3 p415 q415
                           cases e415
                           replace p415:=eq_true p415
                           replace q415:=eq_true q415
                           have p416 : 0 ≤ (x18_2 : Int):=of_decide_eq_true (by first|(with_reducible assumption)|assumption)
                           have q416 : x18_2 < (x10_1.length : Int):=of_decide_eq_true (by first|(with_reducible assumption)|assumption)
                           obtain ⟨ad416,A416_0,c416_0,e416,hx416_0,hl416_0,hi416_0⟩:=at_L6 (Kd.N_reads' HO_10.out).2.2 x18_2 p416 q416
                           cases e416
                           obtain ⟨ce416,hce416,hMe416,hcc416⟩:=Kd.N_get HO_10.out [] x18_2 p416 (by first|exact q416|exact of_decide_eq_true (by first|(with_reducible assumption)|assumption)|(have e_:=(Kd.N_reads' HO_10.out).1;omega))
                           obtain ⟨ua416_0,uc416_0,rfl,ul416_0,ge416_0⟩:=Kd.FK_slice_open hMe416
                           have hv416_0:=hcc416 0 _ rfl
                           rw [Nat.add_zero,show ((Kd.slice 36 (Kd.slice 3 (Kd.int .i64)))).sz = 1 from rfl,Nat.mul_one] at hv416_0
                           replace hv416_0:=Option.some.inj (hv416_0.symm.trans hx416_0)
                           injection hv416_0 with hva_ hvn_ hvc_
                           rw [hva_] at ge416_0
                           rw [hvc_] at ul416_0
                           have HL416_0:=Aside0.mk (show Kd.V (Kd.slice 3 (Kd.int .i64)) 36 _ w.heap.size _ _ (rd_L6 x10_1 x18_2) from Kd.V_mk ul416_0 ge416_0)
                           clear hva_ hvn_ hvc_ ge416_0 ul416_0
                           clear hcc416 hce416
                           have HR416_0:=Aside0.mk hi416_0
                           have HC416_0:=Aside0.mk hl416_0
                           clear hi416_0 hl416_0
                           replace p416:=eq_true p416
                           replace q416:=eq_true q416
                           have p417 : 0 ≤ (x19_3 : Int):=of_decide_eq_true (by first|(with_reducible assumption)|assumption)
                           have q417 : x19_3 < (t396.length : Int):=of_decide_eq_true (by first|(with_reducible assumption)|assumption)
                           obtain ⟨ad417,e417,hx417_0,hx417_1,hx417_2,hx417_3,hx417_4⟩:=at_T79 (Kd.R_reads' HO_9.out).2.2 x19_3 p417 q417
                           obtain rfl : ad415 = ad417:=(by injection e417)
                           replace p417:=eq_true p417
                           replace q417:=eq_true q417
                           have p418 : 0 ≤ (((rd_T79 t396 x19_3).f2) : Int):=of_decide_eq_true (by first|(with_reducible assumption)|assumption)
                           have q418 : ((rd_T79 t396 x19_3).f2) < ((rd_L6 x10_1 x18_2).length : Int):=of_decide_eq_true (by first|(with_reducible assumption)|assumption)
                           obtain ⟨ad418,A418_0,c418_0,e418,hx418_0,hl418_0,hi418_0⟩:=at_L5 (by repeat (first|(with_reducible exact HR416_0.out)|(with_reducible refine Kd.C_alloc ?_ _)|(with_reducible refine Kd.C_drewN ?_ _)|(with_reducible refine Kd.C_drew ?_)|exact HR416_0.out)) ((rd_T79 t396 x19_3).f2) p418 q418
                           cases e418
                           obtain ⟨ce418,hce418,hMe418,hcc418⟩:=Kd.V_get HL416_0.out [] ((rd_T79 t396 x19_3).f2) p418 (by first|exact q418|exact of_decide_eq_true (by first|(with_reducible assumption)|assumption)|(have e_:=(Kd.V_reads' HL416_0.out).1;omega))
                           obtain ⟨ua418_0,uc418_0,rfl,ul418_0,ge418_0⟩:=Kd.FK_slice_open hMe418
                           have hv418_0:=hcc418 0 _ rfl
                           rw [Nat.add_zero,show ((Kd.slice 3 (Kd.int .i64))).sz = 1 from rfl,Nat.mul_one] at hv418_0
                           replace hv418_0:=Option.some.inj (hv418_0.symm.trans hx418_0)
                           injection hv418_0 with hva_ hvn_ hvc_
                           rw [hva_] at ge418_0
                           rw [hvc_] at ul418_0
                           have HL418_0:=Aside0.mk (show Kd.V (Kd.int .i64) 3 _ w.heap.size _ _ (rd_L5 (rd_L6 x10_1 x18_2) ((rd_T79 t396 x19_3).f2)) from Kd.V_mk ul418_0 ge418_0)
                           clear hva_ hvn_ hvc_ ge418_0 ul418_0
                           clear hcc418 hce418
                           have HR418_0:=Aside0.mk hi418_0
                           have HC418_0:=Aside0.mk hl418_0
                           clear hi418_0 hl418_0
                           replace p418:=eq_true p418
                           replace q418:=eq_true q418
                           have p419 : 0 ≤ (((rd_T79 t396 x19_3).f1) : Int):=of_decide_eq_true (by first|(with_reducible assumption)|assumption)
                           have q419 : ((rd_T79 t396 x19_3).f1) < ((rd_L5 (rd_L6 x10_1 x18_2) ((rd_T79 t396 x19_3).f2)).length : Int):=of_decide_eq_true (by first|(with_reducible assumption)|assumption)
                           obtain ⟨ad419,e419,hx419_0⟩:=Kd.at_int (by repeat (first|(with_reducible exact HR418_0.out)|(with_reducible refine Kd.C_alloc ?_ _)|(with_reducible refine Kd.C_drewN ?_ _)|(with_reducible refine Kd.C_drew ?_)|exact HR418_0.out)) ((rd_T79 t396 x19_3).f1) p419 q419
                           cases e419
                           replace p419:=eq_true p419
                           replace q419:=eq_true q419
                           have p420 : 0 ≤ (x19_3 : Int):=of_decide_eq_true (by first|(with_reducible assumption)|assumption)
                           have q420 : x19_3 < (t396.length : Int):=of_decide_eq_true (by first|(with_reducible assumption)|assumption)
                           obtain ⟨ad420,e420,hx420_0,hx420_1,hx420_2,hx420_3,hx420_4⟩:=at_T79 (Kd.R_reads' HO_9.out).2.2 x19_3 p420 q420
                           obtain rfl : ad415 = ad420:=(by injection e420)
                           replace p420:=eq_true p420
                           replace q420:=eq_true q420
                           have p421 : 0 ≤ (x19_3 : Int):=of_decide_eq_true (by first|(with_reducible assumption)|assumption)
                           have q421 : x19_3 < (t396.length : Int):=of_decide_eq_true (by first|(with_reducible assumption)|assumption)
                           obtain ⟨ad421,e421,hx421_0,hx421_1,hx421_2,hx421_3,hx421_4⟩:=at_T79 (Kd.R_reads' HO_9.out).2.2 x19_3 p421 q421
                           obtain rfl : ad415 = ad421:=(by injection e421)
                           replace p421:=eq_true p421
                           replace q421:=eq_true q421
                           go_wp2_with (first|((with_reducible refine gate_builtin (b:=.append) (xs:=#[.tmp 131,.tmp 137]) rfl ?_);at_builtin;refine Kd.R_append k55 (w0:=w) w.heap.size rfl (.tmp 131) (.tmp 137) 39 55 (.agg #[(.int .i64 0),(.int .i64 0)]) 16 rfl Try.underlying39 info55 rfl (by decide) (by omega) u14 x14_3 (⟨(rd_T79 t396 x19_3).f0.f0,(rd_T79 t396 x19_3).f0.f1⟩ : S55) [.int .i64 ((rd_T79 t396 x19_3).f0.f0),.int .i64 ((rd_T79 t396 x19_3).f0.f1)] (fun _=>True) (fun _=>False) rfl rfl ?aP (fun _ hk=>hk.elim) ?aF ?aO ?aB ?aS ?aL ?_;(case aP=>exact k55_mkM _ _ _ (⟨(rd_T79 t396 x19_3).f0.f0,(rd_T79 t396 x19_3).f0.f1⟩ : S55));(case aB=>exact (by repeat (first|(with_reducible first|exact HB.out|apply below_alloc|apply pw_below_drewN|apply below_drew1)|exact HB.out)));(case aF=>exact (fun _ _=>trivial));(case aO=>exact (by (with_reducible repeat (first|apply Kd.R_alloc|apply Kd.R_drewN|apply Kd.R_drew));exact HO_14.out));(case aS=>exact (below_size (by repeat (first|(with_reducible first|exact HB.out|apply below_alloc|apply pw_below_drewN|apply below_drew1)|exact HB.out))));(case aL=>have:=LMc38.out;omega);intro v423 w39 ho hb hg hat;rw [← Ny422.out] at ho;have n0_:=Aside0.mk (Kd.R_over' (by (with_reducible repeat (first|apply Kd.R_alloc|apply Kd.R_drewN|apply Kd.R_drew));exact HO_9.out) (Kd.R_typed (by (with_reducible repeat (first|apply Kd.R_alloc|apply Kd.R_drewN|apply Kd.R_drew));exact HO_14.out)) (by decide) hg);have n1_:=Aside0.mk (Kd.N_afterv (ok:=(fun k_=>some k_ ≠ (.slice (some ad415) t396.length co23 : Value).ownBlock)) (by (with_reducible repeat (first|apply Kd.N_alloc|apply Kd.N_drewN|apply Kd.N_drew));exact HO_10.out) hg hat);have n2_:=Aside0.mk (Kd.V_afterv (ok:=(fun k_=>some k_ ≠ (.slice (some ad415) t396.length co23 : Value).ownBlock ∧ some k_ ≠ (.slice (some ad416) x10_1.length co19 : Value).ownBlock)) (by (with_reducible repeat (first|apply Kd.V_alloc|apply Kd.V_drewN|apply Kd.V_drew));exact Kd.V_mono HL416_0.out (fun _ hk=>⟨⟨hk.1.1,hk.2⟩,hk.1.2⟩)) hg hat);have n3_:=Aside0.mk (Kd.V_afterv (ok:=(fun k_=>some k_ ≠ (.slice (some ad415) t396.length co23 : Value).ownBlock ∧ some k_ ≠ (.slice (some ad416) x10_1.length co19 : Value).ownBlock)) (by (with_reducible repeat (first|apply Kd.V_alloc|apply Kd.V_drewN|apply Kd.V_drew));exact Kd.V_mono HL418_0.out (fun _ hk=>⟨⟨hk.1.1,hk.2⟩,hk.1.2⟩)) hg hat);have n4_:=Aside0.mk (hb);have n5_:=Aside0.mk (ho);clear HO_9;clear HO_10;clear HL416_0;clear HL418_0;clear HB;clear HO_14;have HO_9:=n0_;have HO_10:=n1_;have HL416_0:=n2_;have HL418_0:=n3_;have HB:=n4_;have HO424:=n5_;clear n0_ n1_ n2_ n3_ n4_ n5_;clear ho hb hg hat;have p425 : 0 ≤ (x19_3 : Int):=of_decide_eq_true (by first|(with_reducible assumption)|assumption);have q425 : x19_3 < (t396.length : Int):=of_decide_eq_true (by first|(with_reducible assumption)|assumption);obtain ⟨ad425,e425,hx425_0,hx425_1,hx425_2,hx425_3,hx425_4⟩:=at_T79 (Kd.R_reads' HO_9.out).2.2 x19_3 p425 q425;obtain rfl : ad415 = ad425:=(by injection e425);replace p425:=eq_true p425;replace q425:=eq_true q425;have p426 : 0 ≤ (x19_3 : Int):=of_decide_eq_true (by first|(with_reducible assumption)|assumption);have q426 : x19_3 < (t396.length : Int):=of_decide_eq_true (by first|(with_reducible assumption)|assumption);obtain ⟨ad426,e426,hx426_0,hx426_1,hx426_2,hx426_3,hx426_4⟩:=at_T79 (Kd.R_reads' HO_9.out).2.2 x19_3 p426 q426;obtain rfl : ad415 = ad426:=(by injection e426);replace p426:=eq_true p426;replace q426:=eq_true q426))
                           repeat (go_quiet (first|((with_reducible refine gate_builtin (b:=.append) (xs:=#[.tmp 131,.tmp 137]) rfl ?_);at_builtin;refine Kd.R_append k55 (w0:=w) w.heap.size rfl (.tmp 131) (.tmp 137) 39 55 (.agg #[(.int .i64 0),(.int .i64 0)]) 16 rfl Try.underlying39 info55 rfl (by decide) (by omega) u14 x14_3 (⟨(rd_T79 t396 x19_3).f0.f0,(rd_T79 t396 x19_3).f0.f1⟩ : S55) [.int .i64 ((rd_T79 t396 x19_3).f0.f0),.int .i64 ((rd_T79 t396 x19_3).f0.f1)] (fun _=>True) (fun _=>False) rfl rfl ?aP (fun _ hk=>hk.elim) ?aF ?aO ?aB ?aS ?aL ?_;(case aP=>exact k55_mkM _ _ _ (⟨(rd_T79 t396 x19_3).f0.f0,(rd_T79 t396 x19_3).f0.f1⟩ : S55));(case aB=>exact (by repeat (first|(with_reducible first|exact HB.out|apply below_alloc|apply pw_below_drewN|apply below_drew1)|exact HB.out)));(case aF=>exact (fun _ _=>trivial));(case aO=>exact (by (with_reducible repeat (first|apply Kd.R_alloc|apply Kd.R_drewN|apply Kd.R_drew));exact HO_14.out));(case aS=>exact (below_size (by repeat (first|(with_reducible first|exact HB.out|apply below_alloc|apply pw_below_drewN|apply below_drew1)|exact HB.out))));(case aL=>have:=LMc38.out;omega);intro v423 w39 ho hb hg hat;rw [← Ny422.out] at ho;have n0_:=Aside0.mk (Kd.R_over' (by (with_reducible repeat (first|apply Kd.R_alloc|apply Kd.R_drewN|apply Kd.R_drew));exact HO_9.out) (Kd.R_typed (by (with_reducible repeat (first|apply Kd.R_alloc|apply Kd.R_drewN|apply Kd.R_drew));exact HO_14.out)) (by decide) hg);have n1_:=Aside0.mk (Kd.N_afterv (ok:=(fun k_=>some k_ ≠ (.slice (some ad415) t396.length co23 : Value).ownBlock)) (by (with_reducible repeat (first|apply Kd.N_alloc|apply Kd.N_drewN|apply Kd.N_drew));exact HO_10.out) hg hat);have n2_:=Aside0.mk (Kd.V_afterv (ok:=(fun k_=>some k_ ≠ (.slice (some ad415) t396.length co23 : Value).ownBlock ∧ some k_ ≠ (.slice (some ad416) x10_1.length co19 : Value).ownBlock)) (by (with_reducible repeat (first|apply Kd.V_alloc|apply Kd.V_drewN|apply Kd.V_drew));exact Kd.V_mono HL416_0.out (fun _ hk=>⟨⟨hk.1.1,hk.2⟩,hk.1.2⟩)) hg hat);have n3_:=Aside0.mk (Kd.V_afterv (ok:=(fun k_=>some k_ ≠ (.slice (some ad415) t396.length co23 : Value).ownBlock ∧ some k_ ≠ (.slice (some ad416) x10_1.length co19 : Value).ownBlock)) (by (with_reducible repeat (first|apply Kd.V_alloc|apply Kd.V_drewN|apply Kd.V_drew));exact Kd.V_mono HL418_0.out (fun _ hk=>⟨⟨hk.1.1,hk.2⟩,hk.1.2⟩)) hg hat);have n4_:=Aside0.mk (hb);have n5_:=Aside0.mk (ho);clear HO_9;clear HO_10;clear HL416_0;clear HL418_0;clear HB;clear HO_14;have HO_9:=n0_;have HO_10:=n1_;have HL416_0:=n2_;have HL418_0:=n3_;have HB:=n4_;have HO424:=n5_;clear n0_ n1_ n2_ n3_ n4_ n5_;clear ho hb hg hat;have p425 : 0 ≤ (x19_3 : Int):=of_decide_eq_true (by first|(with_reducible assumption)|assumption);have q425 : x19_3 < (t396.length : Int):=of_decide_eq_true (by first|(with_reducible assumption)|assumption);obtain ⟨ad425,e425,hx425_0,hx425_1,hx425_2,hx425_3,hx425_4⟩:=at_T79 (Kd.R_reads' HO_9.out).2.2 x19_3 p425 q425;obtain rfl : ad415 = ad425:=(by injection e425);replace p425:=eq_true p425;replace q425:=eq_true q425;have p426 : 0 ≤ (x19_3 : Int):=of_decide_eq_true (by first|(with_reducible assumption)|assumption);have q426 : x19_3 < (t396.length : Int):=of_decide_eq_true (by first|(with_reducible assumption)|assumption);obtain ⟨ad426,e426,hx426_0,hx426_1,hx426_2,hx426_3,hx426_4⟩:=at_T79 (Kd.R_reads' HO_9.out).2.2 x19_3 p426 q426;obtain rfl : ad415 = ad426:=(by injection e426);replace p426:=eq_true p426;replace q426:=eq_true q426));try go_wp2_with (first|((with_reducible refine gate_builtin (b:=.append) (xs:=#[.tmp 131,.tmp 137]) rfl ?_);at_builtin;refine Kd.R_append k55 (w0:=w) w.heap.size rfl (.tmp 131) (.tmp 137) 39 55 (.agg #[(.int .i64 0),(.int .i64 0)]) 16 rfl Try.underlying39 info55 rfl (by decide) (by omega) u14 x14_3 (⟨(rd_T79 t396 x19_3).f0.f0,(rd_T79 t396 x19_3).f0.f1⟩ : S55) [.int .i64 ((rd_T79 t396 x19_3).f0.f0),.int .i64 ((rd_T79 t396 x19_3).f0.f1)] (fun _=>True) (fun _=>False) rfl rfl ?aP (fun _ hk=>hk.elim) ?aF ?aO ?aB ?aS ?aL ?_;(case aP=>exact k55_mkM _ _ _ (⟨(rd_T79 t396 x19_3).f0.f0,(rd_T79 t396 x19_3).f0.f1⟩ : S55));(case aB=>exact (by repeat (first|(with_reducible first|exact HB.out|apply below_alloc|apply pw_below_drewN|apply below_drew1)|exact HB.out)));(case aF=>exact (fun _ _=>trivial));(case aO=>exact (by (with_reducible repeat (first|apply Kd.R_alloc|apply Kd.R_drewN|apply Kd.R_drew));exact HO_14.out));(case aS=>exact (below_size (by repeat (first|(with_reducible first|exact HB.out|apply below_alloc|apply pw_below_drewN|apply below_drew1)|exact HB.out))));(case aL=>have:=LMc38.out;omega);intro v423 w39 ho hb hg hat;rw [← Ny422.out] at ho;have n0_:=Aside0.mk (Kd.R_over' (by (with_reducible repeat (first|apply Kd.R_alloc|apply Kd.R_drewN|apply Kd.R_drew));exact HO_9.out) (Kd.R_typed (by (with_reducible repeat (first|apply Kd.R_alloc|apply Kd.R_drewN|apply Kd.R_drew));exact HO_14.out)) (by decide) hg);have n1_:=Aside0.mk (Kd.N_afterv (ok:=(fun k_=>some k_ ≠ (.slice (some ad415) t396.length co23 : Value).ownBlock)) (by (with_reducible repeat (first|apply Kd.N_alloc|apply Kd.N_drewN|apply Kd.N_drew));exact HO_10.out) hg hat);have n2_:=Aside0.mk (Kd.V_afterv (ok:=(fun k_=>some k_ ≠ (.slice (some ad415) t396.length co23 : Value).ownBlock ∧ some k_ ≠ (.slice (some ad416) x10_1.length co19 : Value).ownBlock)) (by (with_reducible repeat (first|apply Kd.V_alloc|apply Kd.V_drewN|apply Kd.V_drew));exact Kd.V_mono HL416_0.out (fun _ hk=>⟨⟨hk.1.1,hk.2⟩,hk.1.2⟩)) hg hat);have n3_:=Aside0.mk (Kd.V_afterv (ok:=(fun k_=>some k_ ≠ (.slice (some ad415) t396.length co23 : Value).ownBlock ∧ some k_ ≠ (.slice (some ad416) x10_1.length co19 : Value).ownBlock)) (by (with_reducible repeat (first|apply Kd.V_alloc|apply Kd.V_drewN|apply Kd.V_drew));exact Kd.V_mono HL418_0.out (fun _ hk=>⟨⟨hk.1.1,hk.2⟩,hk.1.2⟩)) hg hat);have n4_:=Aside0.mk (hb);have n5_:=Aside0.mk (ho);clear HO_9;clear HO_10;clear HL416_0;clear HL418_0;clear HB;clear HO_14;have HO_9:=n0_;have HO_10:=n1_;have HL416_0:=n2_;have HL418_0:=n3_;have HB:=n4_;have HO424:=n5_;clear n0_ n1_ n2_ n3_ n4_ n5_;clear ho hb hg hat;have p425 : 0 ≤ (x19_3 : Int):=of_decide_eq_true (by first|(with_reducible assumption)|assumption);have q425 : x19_3 < (t396.length : Int):=of_decide_eq_true (by first|(with_reducible assumption)|assumption);obtain ⟨ad425,e425,hx425_0,hx425_1,hx425_2,hx425_3,hx425_4⟩:=at_T79 (Kd.R_reads' HO_9.out).2.2 x19_3 p425 q425;obtain rfl : ad415 = ad425:=(by injection e425);replace p425:=eq_true p425;replace q425:=eq_true q425;have p426 : 0 ≤ (x19_3 : Int):=of_decide_eq_true (by first|(with_reducible assumption)|assumption);have q426 : x19_3 < (t396.length : Int):=of_decide_eq_true (by first|(with_reducible assumption)|assumption);obtain ⟨ad426,e426,hx426_0,hx426_1,hx426_2,hx426_3,hx426_4⟩:=at_T79 (Kd.R_reads' HO_9.out).2.2 x19_3 p426 q426;obtain rfl : ad415 = ad426:=(by injection e426);replace p426:=eq_true p426;replace q426:=eq_true q426)))
                           go_roundg kj21
                           case measure=>have:=HK1.out;have:=HK2.out;have:=HK3.out;have:=HJ21.out;omega
                           case rel=>exact ⟨(y422),((rd_T79 t396 x19_3).f1),((rd_T79 t396 x19_3).f2),(wrap64 (x17_3 + ((rd_T79 t396 x19_3).f3))),(wrap64 (x18_2 - 1)),(by first|rfl|(simp;done)|(simp [*];done)),(by first|rfl|(simp;done)|(simp [*];done)),(by first|rfl|(simp;done)|(simp [*];done)),(by first|rfl|(simp;done)|(simp [*];done)),H',⟨by have:=HK1.out;have:=HK2.out;have:=HK3.out;have:=HJ21.out;omega⟩,⟨by (with_reducible repeat (first|apply Kd.R_alloc|apply Kd.R_drewN|apply Kd.R_drew));exact HO_9.out⟩,⟨by (with_reducible repeat (first|apply Kd.N_alloc|apply Kd.N_drewN|apply Kd.N_drew));exact HO_10.out⟩,⟨by (with_reducible repeat (first|apply Kd.R_alloc|apply Kd.R_drewN|apply Kd.R_drew));exact HO424.out⟩,⟨by repeat (first|(with_reducible first|exact HB.out|apply below_alloc|apply pw_below_drewN|apply below_drew1)|exact HB.out)⟩⟩
                          ·rw [if_neg c38] at H
                           exact absurd H (by simp)
                         ·rw [if_neg c37] at H
                          have c37b0 : decide ((wrap64 ((wrap64 (x17_3 + ((rd_T79 t396 x19_3).f3))) + (rd (rd_L5 (rd_L6 x10_1 x18_2) ((rd_T79 t396 x19_3).f2)) ((rd_T79 t396 x19_3).f1)))) < 0) = false:=decide_eq_false c37
                          clear c37
                          have H':=Aside0.mk H
                          clear H
                          have p415 : 0 ≤ (x19_3 : Int):=of_decide_eq_true (by first|(with_reducible assumption)|assumption)
                          have q415 : x19_3 < (t396.length : Int):=of_decide_eq_true (by first|(with_reducible assumption)|assumption)
                          obtain ⟨ad415,e415,hx415_0,hx415_1,hx415_2,hx415_3,hx415_4⟩:=at_T79 (Kd.R_reads' HO_9.out).2.2 x19_3 p415 q415
                          cases e415
                          replace p415:=eq_true p415
                          replace q415:=eq_true q415
                          have p416 : 0 ≤ (x18_2 : Int):=of_decide_eq_true (by first|(with_reducible assumption)|assumption)
                          have q416 : x18_2 < (x10_1.length : Int):=of_decide_eq_true (by first|(with_reducible assumption)|assumption)
                          obtain ⟨ad416,A416_0,c416_0,e416,hx416_0,hl416_0,hi416_0⟩:=at_L6 (Kd.N_reads' HO_10.out).2.2 x18_2 p416 q416
                          cases e416
                          obtain ⟨ce416,hce416,hMe416,hcc416⟩:=Kd.N_get HO_10.out [] x18_2 p416 (by first|exact q416|exact of_decide_eq_true (by first|(with_reducible assumption)|assumption)|(have e_:=(Kd.N_reads' HO_10.out).1;omega))
                          obtain ⟨ua416_0,uc416_0,rfl,ul416_0,ge416_0⟩:=Kd.FK_slice_open hMe416
                          have hv416_0:=hcc416 0 _ rfl
                          rw [Nat.add_zero,show ((Kd.slice 36 (Kd.slice 3 (Kd.int .i64)))).sz = 1 from rfl,Nat.mul_one] at hv416_0
                          replace hv416_0:=Option.some.inj (hv416_0.symm.trans hx416_0)
                          injection hv416_0 with hva_ hvn_ hvc_
                          rw [hva_] at ge416_0
                          rw [hvc_] at ul416_0
                          have HL416_0:=Aside0.mk (show Kd.V (Kd.slice 3 (Kd.int .i64)) 36 _ w.heap.size _ _ (rd_L6 x10_1 x18_2) from Kd.V_mk ul416_0 ge416_0)
                          clear hva_ hvn_ hvc_ ge416_0 ul416_0
                          clear hcc416 hce416
                          have HR416_0:=Aside0.mk hi416_0
                          have HC416_0:=Aside0.mk hl416_0
                          clear hi416_0 hl416_0
                          replace p416:=eq_true p416
                          replace q416:=eq_true q416
                          have p417 : 0 ≤ (x19_3 : Int):=of_decide_eq_true (by first|(with_reducible assumption)|assumption)
                          have q417 : x19_3 < (t396.length : Int):=of_decide_eq_true (by first|(with_reducible assumption)|assumption)
                          obtain ⟨ad417,e417,hx417_0,hx417_1,hx417_2,hx417_3,hx417_4⟩:=at_T79 (Kd.R_reads' HO_9.out).2.2 x19_3 p417 q417
                          obtain rfl : ad415 = ad417:=(by injection e417)
                          replace p417:=eq_true p417
                          replace q417:=eq_true q417
                          have p418 : 0 ≤ (((rd_T79 t396 x19_3).f2) : Int):=of_decide_eq_true (by first|(with_reducible assumption)|assumption)
                          have q418 : ((rd_T79 t396 x19_3).f2) < ((rd_L6 x10_1 x18_2).length : Int):=of_decide_eq_true (by first|(with_reducible assumption)|assumption)
                          obtain ⟨ad418,A418_0,c418_0,e418,hx418_0,hl418_0,hi418_0⟩:=at_L5 (by repeat (first|(with_reducible exact HR416_0.out)|(with_reducible refine Kd.C_alloc ?_ _)|(with_reducible refine Kd.C_drewN ?_ _)|(with_reducible refine Kd.C_drew ?_)|exact HR416_0.out)) ((rd_T79 t396 x19_3).f2) p418 q418
                          cases e418
                          obtain ⟨ce418,hce418,hMe418,hcc418⟩:=Kd.V_get HL416_0.out [] ((rd_T79 t396 x19_3).f2) p418 (by first|exact q418|exact of_decide_eq_true (by first|(with_reducible assumption)|assumption)|(have e_:=(Kd.V_reads' HL416_0.out).1;omega))
                          obtain ⟨ua418_0,uc418_0,rfl,ul418_0,ge418_0⟩:=Kd.FK_slice_open hMe418
                          have hv418_0:=hcc418 0 _ rfl
                          rw [Nat.add_zero,show ((Kd.slice 3 (Kd.int .i64))).sz = 1 from rfl,Nat.mul_one] at hv418_0
                          replace hv418_0:=Option.some.inj (hv418_0.symm.trans hx418_0)
                          injection hv418_0 with hva_ hvn_ hvc_
                          rw [hva_] at ge418_0
                          rw [hvc_] at ul418_0
                          have HL418_0:=Aside0.mk (show Kd.V (Kd.int .i64) 3 _ w.heap.size _ _ (rd_L5 (rd_L6 x10_1 x18_2) ((rd_T79 t396 x19_3).f2)) from Kd.V_mk ul418_0 ge418_0)
                          clear hva_ hvn_ hvc_ ge418_0 ul418_0
                          clear hcc418 hce418
                          have HR418_0:=Aside0.mk hi418_0
                          have HC418_0:=Aside0.mk hl418_0
                          clear hi418_0 hl418_0
                          replace p418:=eq_true p418
                          replace q418:=eq_true q418
                          have p419 : 0 ≤ (((rd_T79 t396 x19_3).f1) : Int):=of_decide_eq_true (by first|(with_reducible assumption)|assumption)
                          have q419 : ((rd_T79 t396 x19_3).f1) < ((rd_L5 (rd_L6 x10_1 x18_2) ((rd_T79 t396 x19_3).f2)).length : Int):=of_decide_eq_true (by first|(with_reducible assumption)|assumption)
                          obtain ⟨ad419,e419,hx419_0⟩:=Kd.at_int (by repeat (first|(with_reducible exact HR418_0.out)|(with_reducible refine Kd.C_alloc ?_ _)|(with_reducible refine Kd.C_drewN ?_ _)|(with_reducible refine Kd.C_drew ?_)|exact HR418_0.out)) ((rd_T79 t396 x19_3).f1) p419 q419
                          cases e419
                          replace p419:=eq_true p419
                          replace q419:=eq_true q419
                          have p420 : 0 ≤ (x19_3 : Int):=of_decide_eq_true (by first|(with_reducible assumption)|assumption)
                          have q420 : x19_3 < (t396.length : Int):=of_decide_eq_true (by first|(with_reducible assumption)|assumption)
                          obtain ⟨ad420,e420,hx420_0,hx420_1,hx420_2,hx420_3,hx420_4⟩:=at_T79 (Kd.R_reads' HO_9.out).2.2 x19_3 p420 q420
                          obtain rfl : ad415 = ad420:=(by injection e420)
                          replace p420:=eq_true p420
                          replace q420:=eq_true q420
                          go_wp2
                          repeat (go_quiet (fail);try go_wp2)
                          go_roundg kj21
                          case measure=>have:=HK1.out;have:=HK2.out;have:=HK3.out;have:=HJ21.out;omega
                          case rel=>exact ⟨(x14_3),(x15_3),(x16_3),(x17_3),(wrap64 (x19_3 + 1)),(by first|rfl|(simp;done)|(simp [*];done)),(by first|rfl|(simp;done)|(simp [*];done)),(by first|rfl|(simp;done)|(simp [*];done)),(by first|rfl|(simp;done)|(simp [*];done)),H',⟨by have:=HK1.out;have:=HK2.out;have:=HK3.out;have:=HJ21.out;omega⟩,⟨by (with_reducible repeat (first|apply Kd.R_alloc|apply Kd.R_drewN|apply Kd.R_drew));exact HO_9.out⟩,⟨by (with_reducible repeat (first|apply Kd.N_alloc|apply Kd.N_drewN|apply Kd.N_drew));exact HO_10.out⟩,⟨by (with_reducible repeat (first|apply Kd.R_alloc|apply Kd.R_drewN|apply Kd.R_drew));exact HO_14.out⟩,⟨by repeat (first|(with_reducible first|exact HB.out|apply below_alloc|apply pw_below_drewN|apply below_drew1)|exact HB.out)⟩⟩
                        ·rw [if_neg c36] at H
                         have c36b0 : decide ((rd (rd_L5 (rd_L6 x10_1 x18_2) ((rd_T79 t396 x19_3).f2)) ((rd_T79 t396 x19_3).f1)) < 1125899906842624) = false:=decide_eq_false c36
                         clear c36
                         have H':=Aside0.mk H
                         clear H
                         have p415 : 0 ≤ (x19_3 : Int):=of_decide_eq_true (by first|(with_reducible assumption)|assumption)
                         have q415 : x19_3 < (t396.length : Int):=of_decide_eq_true (by first|(with_reducible assumption)|assumption)
                         obtain ⟨ad415,e415,hx415_0,hx415_1,hx415_2,hx415_3,hx415_4⟩:=at_T79 (Kd.R_reads' HO_9.out).2.2 x19_3 p415 q415
                         cases e415
                         replace p415:=eq_true p415
                         replace q415:=eq_true q415
                         have p416 : 0 ≤ (x18_2 : Int):=of_decide_eq_true (by first|(with_reducible assumption)|assumption)
                         have q416 : x18_2 < (x10_1.length : Int):=of_decide_eq_true (by first|(with_reducible assumption)|assumption)
                         obtain ⟨ad416,A416_0,c416_0,e416,hx416_0,hl416_0,hi416_0⟩:=at_L6 (Kd.N_reads' HO_10.out).2.2 x18_2 p416 q416
                         cases e416
                         obtain ⟨ce416,hce416,hMe416,hcc416⟩:=Kd.N_get HO_10.out [] x18_2 p416 (by first|exact q416|exact of_decide_eq_true (by first|(with_reducible assumption)|assumption)|(have e_:=(Kd.N_reads' HO_10.out).1;omega))
                         obtain ⟨ua416_0,uc416_0,rfl,ul416_0,ge416_0⟩:=Kd.FK_slice_open hMe416
                         have hv416_0:=hcc416 0 _ rfl
                         rw [Nat.add_zero,show ((Kd.slice 36 (Kd.slice 3 (Kd.int .i64)))).sz = 1 from rfl,Nat.mul_one] at hv416_0
                         replace hv416_0:=Option.some.inj (hv416_0.symm.trans hx416_0)
                         injection hv416_0 with hva_ hvn_ hvc_
                         rw [hva_] at ge416_0
                         rw [hvc_] at ul416_0
                         have HL416_0:=Aside0.mk (show Kd.V (Kd.slice 3 (Kd.int .i64)) 36 _ w.heap.size _ _ (rd_L6 x10_1 x18_2) from Kd.V_mk ul416_0 ge416_0)
                         clear hva_ hvn_ hvc_ ge416_0 ul416_0
                         clear hcc416 hce416
                         have HR416_0:=Aside0.mk hi416_0
                         have HC416_0:=Aside0.mk hl416_0
                         clear hi416_0 hl416_0
                         replace p416:=eq_true p416
                         replace q416:=eq_true q416
                         have p417 : 0 ≤ (x19_3 : Int):=of_decide_eq_true (by first|(with_reducible assumption)|assumption)
                         have q417 : x19_3 < (t396.length : Int):=of_decide_eq_true (by first|(with_reducible assumption)|assumption)
                         obtain ⟨ad417,e417,hx417_0,hx417_1,hx417_2,hx417_3,hx417_4⟩:=at_T79 (Kd.R_reads' HO_9.out).2.2 x19_3 p417 q417
                         obtain rfl : ad415 = ad417:=(by injection e417)
                         replace p417:=eq_true p417
                         replace q417:=eq_true q417
                         have p418 : 0 ≤ (((rd_T79 t396 x19_3).f2) : Int):=of_decide_eq_true (by first|(with_reducible assumption)|assumption)
                         have q418 : ((rd_T79 t396 x19_3).f2) < ((rd_L6 x10_1 x18_2).length : Int):=of_decide_eq_true (by first|(with_reducible assumption)|assumption)
                         obtain ⟨ad418,A418_0,c418_0,e418,hx418_0,hl418_0,hi418_0⟩:=at_L5 (by repeat (first|(with_reducible exact HR416_0.out)|(with_reducible refine Kd.C_alloc ?_ _)|(with_reducible refine Kd.C_drewN ?_ _)|(with_reducible refine Kd.C_drew ?_)|exact HR416_0.out)) ((rd_T79 t396 x19_3).f2) p418 q418
                         cases e418
                         obtain ⟨ce418,hce418,hMe418,hcc418⟩:=Kd.V_get HL416_0.out [] ((rd_T79 t396 x19_3).f2) p418 (by first|exact q418|exact of_decide_eq_true (by first|(with_reducible assumption)|assumption)|(have e_:=(Kd.V_reads' HL416_0.out).1;omega))
                         obtain ⟨ua418_0,uc418_0,rfl,ul418_0,ge418_0⟩:=Kd.FK_slice_open hMe418
                         have hv418_0:=hcc418 0 _ rfl
                         rw [Nat.add_zero,show ((Kd.slice 3 (Kd.int .i64))).sz = 1 from rfl,Nat.mul_one] at hv418_0
                         replace hv418_0:=Option.some.inj (hv418_0.symm.trans hx418_0)
                         injection hv418_0 with hva_ hvn_ hvc_
                         rw [hva_] at ge418_0
                         rw [hvc_] at ul418_0
                         have HL418_0:=Aside0.mk (show Kd.V (Kd.int .i64) 3 _ w.heap.size _ _ (rd_L5 (rd_L6 x10_1 x18_2) ((rd_T79 t396 x19_3).f2)) from Kd.V_mk ul418_0 ge418_0)
                         clear hva_ hvn_ hvc_ ge418_0 ul418_0
                         clear hcc418 hce418
                         have HR418_0:=Aside0.mk hi418_0
                         have HC418_0:=Aside0.mk hl418_0
                         clear hi418_0 hl418_0
                         replace p418:=eq_true p418
                         replace q418:=eq_true q418
                         have p419 : 0 ≤ (((rd_T79 t396 x19_3).f1) : Int):=of_decide_eq_true (by first|(with_reducible assumption)|assumption)
                         have q419 : ((rd_T79 t396 x19_3).f1) < ((rd_L5 (rd_L6 x10_1 x18_2) ((rd_T79 t396 x19_3).f2)).length : Int):=of_decide_eq_true (by first|(with_reducible assumption)|assumption)
                         obtain ⟨ad419,e419,hx419_0⟩:=Kd.at_int (by repeat (first|(with_reducible exact HR418_0.out)|(with_reducible refine Kd.C_alloc ?_ _)|(with_reducible refine Kd.C_drewN ?_ _)|(with_reducible refine Kd.C_drew ?_)|exact HR418_0.out)) ((rd_T79 t396 x19_3).f1) p419 q419
                         cases e419
                         replace p419:=eq_true p419
                         replace q419:=eq_true q419
                         go_wp2
                         repeat (go_quiet (fail);try go_wp2)
                         go_roundg kj21
                         case measure=>have:=HK1.out;have:=HK2.out;have:=HK3.out;have:=HJ21.out;omega
                         case rel=>exact ⟨(x14_3),(x15_3),(x16_3),(x17_3),(wrap64 (x19_3 + 1)),(by first|rfl|(simp;done)|(simp [*];done)),(by first|rfl|(simp;done)|(simp [*];done)),(by first|rfl|(simp;done)|(simp [*];done)),(by first|rfl|(simp;done)|(simp [*];done)),H',⟨by have:=HK1.out;have:=HK2.out;have:=HK3.out;have:=HJ21.out;omega⟩,⟨by (with_reducible repeat (first|apply Kd.R_alloc|apply Kd.R_drewN|apply Kd.R_drew));exact HO_9.out⟩,⟨by (with_reducible repeat (first|apply Kd.N_alloc|apply Kd.N_drewN|apply Kd.N_drew));exact HO_10.out⟩,⟨by (with_reducible repeat (first|apply Kd.R_alloc|apply Kd.R_drewN|apply Kd.R_drew));exact HO_14.out⟩,⟨by repeat (first|(with_reducible first|exact HB.out|apply below_alloc|apply pw_below_drewN|apply below_drew1)|exact HB.out)⟩⟩
                       ·rw [if_neg c35] at H
                        exact absurd H (by simp)
                      ·rw [if_neg c34] at H
                       exact absurd H (by simp)
                     ·rw [if_neg c33] at H
                      exact absurd H (by simp)
                    ·rw [if_neg c32] at H
                     exact absurd H (by simp)
                   ·rw [if_neg c31] at H
                    exact absurd H (by simp)
                  ·rw [if_neg c30] at H
                   exact absurd H (by simp)
                 ·rw [if_neg c29] at H
                  exact absurd H (by simp)
                ·rw [if_neg c28] at H
                 exact absurd H (by simp)
               ·rw [if_neg c27] at H
                have c27b0 : decide (x15_3 < 0) = false:=decide_eq_false c27
                clear c27
                by_cases c40 : 0 ≤ x18_2
                ·rw [if_pos c40] at H
                 have c40b0 : decide (0 ≤ x18_2) = true:=decide_eq_true c40
                 clear c40
                 by_cases c41 : x18_2 < (x10_1.length : Int)
                 ·rw [if_pos c41] at H
                  have c41b0 : decide (x18_2 < (x10_1.length : Int)) = true:=decide_eq_true c41
                  clear c41
                  by_cases c42 : 0 ≤ x19_3
                  ·rw [if_pos c42] at H
                   have c42b0 : decide (0 ≤ x19_3) = true:=decide_eq_true c42
                   clear c42
                   by_cases c43 : x19_3 < (t396.length : Int)
                   ·rw [if_pos c43] at H
                    have c43b0 : decide (x19_3 < (t396.length : Int)) = true:=decide_eq_true c43
                    clear c43
                    by_cases c44 : 0 ≤ ((rd_T79 t396 x19_3).f2)
                    ·rw [if_pos c44] at H
                     have c44b0 : decide (0 ≤ ((rd_T79 t396 x19_3).f2)) = true:=decide_eq_true c44
                     clear c44
                     by_cases c45 : ((rd_T79 t396 x19_3).f2) < ((rd_L6 x10_1 x18_2).length : Int)
                     ·rw [if_pos c45] at H
                      have c45b0 : decide (((rd_T79 t396 x19_3).f2) < ((rd_L6 x10_1 x18_2).length : Int)) = true:=decide_eq_true c45
                      clear c45
                      by_cases c46 : 0 ≤ x15_3
                      ·rw [if_pos c46] at H
                       have c46b0 : decide (0 ≤ x15_3) = true:=decide_eq_true c46
                       clear c46
                       by_cases c47 : x15_3 < ((rd_L5 (rd_L6 x10_1 x18_2) ((rd_T79 t396 x19_3).f2)).length : Int)
                       ·rw [if_pos c47] at H
                        have c47b0 : decide (x15_3 < ((rd_L5 (rd_L6 x10_1 x18_2) ((rd_T79 t396 x19_3).f2)).length : Int)) = true:=decide_eq_true c47
                        clear c47
                        by_cases c48 : (rd (rd_L5 (rd_L6 x10_1 x18_2) ((rd_T79 t396 x19_3).f2)) x15_3) < 1125899906842624
                        ·rw [if_pos c48] at H
                         have c48b0 : decide ((rd (rd_L5 (rd_L6 x10_1 x18_2) ((rd_T79 t396 x19_3).f2)) x15_3) < 1125899906842624) = true:=decide_eq_true c48
                         clear c48
                         by_cases c49 : (wrap64 ((wrap64 (x17_3 + ((rd_T79 t396 x19_3).f3))) + (rd (rd_L5 (rd_L6 x10_1 x18_2) ((rd_T79 t396 x19_3).f2)) x15_3))) < 0
                         ·rw [if_pos c49] at H
                          have c49b0 : decide ((wrap64 ((wrap64 (x17_3 + ((rd_T79 t396 x19_3).f3))) + (rd (rd_L5 (rd_L6 x10_1 x18_2) ((rd_T79 t396 x19_3).f2)) x15_3))) < 0) = true:=decide_eq_true c49
                          clear c49
                          by_cases c50 : x14_3.length < 8796093022208
                          ·rw [if_pos c50] at H
                           have LMc50:=Aside0.mk c50
                           clear c50
                           obtain ⟨y433,hy433⟩ : ∃ y_ : List (S55),y_ = (x14_3 ++ [(⟨(rd_T79 t396 x19_3).f0.f0,(rd_T79 t396 x19_3).f0.f1⟩ : S55)]):=⟨_,rfl⟩
                           replace H : (scarfjointref03_Refute.l2 kj21 t396 x10_1 y433 x15_3 ((rd_T79 t396 x19_3).f2) (wrap64 (x17_3 + ((rd_T79 t396 x19_3).f3))) (wrap64 (x18_2 - 1))) = some (r1,r2):=by first|(rw [hy433];with_reducible exact H)|(have H2_:=(Option.bind_some _ _).symm.trans H;rw [hy433];with_reducible exact H2_)|(have H2_:=(Option.bind_some _ _).symm.trans H;with_reducible exact H2_)|with_reducible exact H|(rw [hy433];exact H)|exact H
                           have Ny433:=Aside0.mk hy433
                           clear hy433
                           have H':=Aside0.mk H
                           clear H
                           have p427 : 0 ≤ (x18_2 : Int):=of_decide_eq_true (by first|(with_reducible assumption)|assumption)
                           have q427 : x18_2 < (x10_1.length : Int):=of_decide_eq_true (by first|(with_reducible assumption)|assumption)
                           obtain ⟨ad427,A427_0,c427_0,e427,hx427_0,hl427_0,hi427_0⟩:=at_L6 (Kd.N_reads' HO_10.out).2.2 x18_2 p427 q427
                           cases e427
                           obtain ⟨ce427,hce427,hMe427,hcc427⟩:=Kd.N_get HO_10.out [] x18_2 p427 (by first|exact q427|exact of_decide_eq_true (by first|(with_reducible assumption)|assumption)|(have e_:=(Kd.N_reads' HO_10.out).1;omega))
                           obtain ⟨ua427_0,uc427_0,rfl,ul427_0,ge427_0⟩:=Kd.FK_slice_open hMe427
                           have hv427_0:=hcc427 0 _ rfl
                           rw [Nat.add_zero,show ((Kd.slice 36 (Kd.slice 3 (Kd.int .i64)))).sz = 1 from rfl,Nat.mul_one] at hv427_0
                           replace hv427_0:=Option.some.inj (hv427_0.symm.trans hx427_0)
                           injection hv427_0 with hva_ hvn_ hvc_
                           rw [hva_] at ge427_0
                           rw [hvc_] at ul427_0
                           have HL427_0:=Aside0.mk (show Kd.V (Kd.slice 3 (Kd.int .i64)) 36 _ w.heap.size _ _ (rd_L6 x10_1 x18_2) from Kd.V_mk ul427_0 ge427_0)
                           clear hva_ hvn_ hvc_ ge427_0 ul427_0
                           clear hcc427 hce427
                           have HR427_0:=Aside0.mk hi427_0
                           have HC427_0:=Aside0.mk hl427_0
                           clear hi427_0 hl427_0
                           replace p427:=eq_true p427
                           replace q427:=eq_true q427
                           have p428 : 0 ≤ (x19_3 : Int):=of_decide_eq_true (by first|(with_reducible assumption)|assumption)
                           have q428 : x19_3 < (t396.length : Int):=of_decide_eq_true (by first|(with_reducible assumption)|assumption)
                           obtain ⟨ad428,e428,hx428_0,hx428_1,hx428_2,hx428_3,hx428_4⟩:=at_T79 (Kd.R_reads' HO_9.out).2.2 x19_3 p428 q428
                           cases e428
                           replace p428:=eq_true p428
                           replace q428:=eq_true q428
                           have p429 : 0 ≤ (((rd_T79 t396 x19_3).f2) : Int):=of_decide_eq_true (by first|(with_reducible assumption)|assumption)
                           have q429 : ((rd_T79 t396 x19_3).f2) < ((rd_L6 x10_1 x18_2).length : Int):=of_decide_eq_true (by first|(with_reducible assumption)|assumption)
                           obtain ⟨ad429,A429_0,c429_0,e429,hx429_0,hl429_0,hi429_0⟩:=at_L5 (by repeat (first|(with_reducible exact HR427_0.out)|(with_reducible refine Kd.C_alloc ?_ _)|(with_reducible refine Kd.C_drewN ?_ _)|(with_reducible refine Kd.C_drew ?_)|exact HR427_0.out)) ((rd_T79 t396 x19_3).f2) p429 q429
                           cases e429
                           obtain ⟨ce429,hce429,hMe429,hcc429⟩:=Kd.V_get HL427_0.out [] ((rd_T79 t396 x19_3).f2) p429 (by first|exact q429|exact of_decide_eq_true (by first|(with_reducible assumption)|assumption)|(have e_:=(Kd.V_reads' HL427_0.out).1;omega))
                           obtain ⟨ua429_0,uc429_0,rfl,ul429_0,ge429_0⟩:=Kd.FK_slice_open hMe429
                           have hv429_0:=hcc429 0 _ rfl
                           rw [Nat.add_zero,show ((Kd.slice 3 (Kd.int .i64))).sz = 1 from rfl,Nat.mul_one] at hv429_0
                           replace hv429_0:=Option.some.inj (hv429_0.symm.trans hx429_0)
                           injection hv429_0 with hva_ hvn_ hvc_
                           rw [hva_] at ge429_0
                           rw [hvc_] at ul429_0
                           have HL429_0:=Aside0.mk (show Kd.V (Kd.int .i64) 3 _ w.heap.size _ _ (rd_L5 (rd_L6 x10_1 x18_2) ((rd_T79 t396 x19_3).f2)) from Kd.V_mk ul429_0 ge429_0)
                           clear hva_ hvn_ hvc_ ge429_0 ul429_0
                           clear hcc429 hce429
                           have HR429_0:=Aside0.mk hi429_0
                           have HC429_0:=Aside0.mk hl429_0
                           clear hi429_0 hl429_0
                           replace p429:=eq_true p429
                           replace q429:=eq_true q429
                           have p430 : 0 ≤ (x15_3 : Int):=of_decide_eq_true (by first|(with_reducible assumption)|assumption)
                           have q430 : x15_3 < ((rd_L5 (rd_L6 x10_1 x18_2) ((rd_T79 t396 x19_3).f2)).length : Int):=of_decide_eq_true (by first|(with_reducible assumption)|assumption)
                           obtain ⟨ad430,e430,hx430_0⟩:=Kd.at_int (by repeat (first|(with_reducible exact HR429_0.out)|(with_reducible refine Kd.C_alloc ?_ _)|(with_reducible refine Kd.C_drewN ?_ _)|(with_reducible refine Kd.C_drew ?_)|exact HR429_0.out)) x15_3 p430 q430
                           cases e430
                           replace p430:=eq_true p430
                           replace q430:=eq_true q430
                           have p431 : 0 ≤ (x19_3 : Int):=of_decide_eq_true (by first|(with_reducible assumption)|assumption)
                           have q431 : x19_3 < (t396.length : Int):=of_decide_eq_true (by first|(with_reducible assumption)|assumption)
                           obtain ⟨ad431,e431,hx431_0,hx431_1,hx431_2,hx431_3,hx431_4⟩:=at_T79 (Kd.R_reads' HO_9.out).2.2 x19_3 p431 q431
                           obtain rfl : ad428 = ad431:=(by injection e431)
                           replace p431:=eq_true p431
                           replace q431:=eq_true q431
                           have p432 : 0 ≤ (x19_3 : Int):=of_decide_eq_true (by first|(with_reducible assumption)|assumption)
                           have q432 : x19_3 < (t396.length : Int):=of_decide_eq_true (by first|(with_reducible assumption)|assumption)
                           obtain ⟨ad432,e432,hx432_0,hx432_1,hx432_2,hx432_3,hx432_4⟩:=at_T79 (Kd.R_reads' HO_9.out).2.2 x19_3 p432 q432
                           obtain rfl : ad428 = ad432:=(by injection e432)
                           replace p432:=eq_true p432
                           replace q432:=eq_true q432
                           go_wp2_with (first|((with_reducible refine gate_builtin (b:=.append) (xs:=#[.tmp 131,.tmp 137]) rfl ?_);at_builtin;refine Kd.R_append k55 (w0:=w) w.heap.size rfl (.tmp 131) (.tmp 137) 39 55 (.agg #[(.int .i64 0),(.int .i64 0)]) 16 rfl Try.underlying39 info55 rfl (by decide) (by omega) u14 x14_3 (⟨(rd_T79 t396 x19_3).f0.f0,(rd_T79 t396 x19_3).f0.f1⟩ : S55) [.int .i64 ((rd_T79 t396 x19_3).f0.f0),.int .i64 ((rd_T79 t396 x19_3).f0.f1)] (fun _=>True) (fun _=>False) rfl rfl ?aP (fun _ hk=>hk.elim) ?aF ?aO ?aB ?aS ?aL ?_;(case aP=>exact k55_mkM _ _ _ (⟨(rd_T79 t396 x19_3).f0.f0,(rd_T79 t396 x19_3).f0.f1⟩ : S55));(case aB=>exact (by repeat (first|(with_reducible first|exact HB.out|apply below_alloc|apply pw_below_drewN|apply below_drew1)|exact HB.out)));(case aF=>exact (fun _ _=>trivial));(case aO=>exact (by (with_reducible repeat (first|apply Kd.R_alloc|apply Kd.R_drewN|apply Kd.R_drew));exact HO_14.out));(case aS=>exact (below_size (by repeat (first|(with_reducible first|exact HB.out|apply below_alloc|apply pw_below_drewN|apply below_drew1)|exact HB.out))));(case aL=>have:=LMc50.out;omega);intro v434 w51 ho hb hg hat;rw [← Ny433.out] at ho;have n0_:=Aside0.mk (Kd.R_over' (by (with_reducible repeat (first|apply Kd.R_alloc|apply Kd.R_drewN|apply Kd.R_drew));exact HO_9.out) (Kd.R_typed (by (with_reducible repeat (first|apply Kd.R_alloc|apply Kd.R_drewN|apply Kd.R_drew));exact HO_14.out)) (by decide) hg);have n1_:=Aside0.mk (Kd.N_afterv (ok:=(fun k_=>some k_ ≠ (.slice (some ad428) t396.length co23 : Value).ownBlock)) (by (with_reducible repeat (first|apply Kd.N_alloc|apply Kd.N_drewN|apply Kd.N_drew));exact HO_10.out) hg hat);have n2_:=Aside0.mk (Kd.V_afterv (ok:=(fun k_=>some k_ ≠ (.slice (some ad428) t396.length co23 : Value).ownBlock ∧ some k_ ≠ (.slice (some ad427) x10_1.length co19 : Value).ownBlock)) (by (with_reducible repeat (first|apply Kd.V_alloc|apply Kd.V_drewN|apply Kd.V_drew));exact Kd.V_mono HL427_0.out (fun _ hk=>⟨⟨hk.1.1,hk.2⟩,hk.1.2⟩)) hg hat);have n3_:=Aside0.mk (Kd.V_afterv (ok:=(fun k_=>some k_ ≠ (.slice (some ad428) t396.length co23 : Value).ownBlock ∧ some k_ ≠ (.slice (some ad427) x10_1.length co19 : Value).ownBlock)) (by (with_reducible repeat (first|apply Kd.V_alloc|apply Kd.V_drewN|apply Kd.V_drew));exact Kd.V_mono HL429_0.out (fun _ hk=>⟨⟨hk.1.1,hk.2⟩,hk.1.2⟩)) hg hat);have n4_:=Aside0.mk (hb);have n5_:=Aside0.mk (ho);clear HO_9;clear HO_10;clear HL427_0;clear HL429_0;clear HB;clear HO_14;have HO_9:=n0_;have HO_10:=n1_;have HL427_0:=n2_;have HL429_0:=n3_;have HB:=n4_;have HO435:=n5_;clear n0_ n1_ n2_ n3_ n4_ n5_;clear ho hb hg hat;have p436 : 0 ≤ (x19_3 : Int):=of_decide_eq_true (by first|(with_reducible assumption)|assumption);have q436 : x19_3 < (t396.length : Int):=of_decide_eq_true (by first|(with_reducible assumption)|assumption);obtain ⟨ad436,e436,hx436_0,hx436_1,hx436_2,hx436_3,hx436_4⟩:=at_T79 (Kd.R_reads' HO_9.out).2.2 x19_3 p436 q436;obtain rfl : ad428 = ad436:=(by injection e436);replace p436:=eq_true p436;replace q436:=eq_true q436;have p437 : 0 ≤ (x19_3 : Int):=of_decide_eq_true (by first|(with_reducible assumption)|assumption);have q437 : x19_3 < (t396.length : Int):=of_decide_eq_true (by first|(with_reducible assumption)|assumption);obtain ⟨ad437,e437,hx437_0,hx437_1,hx437_2,hx437_3,hx437_4⟩:=at_T79 (Kd.R_reads' HO_9.out).2.2 x19_3 p437 q437;obtain rfl : ad428 = ad437:=(by injection e437);replace p437:=eq_true p437;replace q437:=eq_true q437))
                           repeat (go_quiet (first|((with_reducible refine gate_builtin (b:=.append) (xs:=#[.tmp 131,.tmp 137]) rfl ?_);at_builtin;refine Kd.R_append k55 (w0:=w) w.heap.size rfl (.tmp 131) (.tmp 137) 39 55 (.agg #[(.int .i64 0),(.int .i64 0)]) 16 rfl Try.underlying39 info55 rfl (by decide) (by omega) u14 x14_3 (⟨(rd_T79 t396 x19_3).f0.f0,(rd_T79 t396 x19_3).f0.f1⟩ : S55) [.int .i64 ((rd_T79 t396 x19_3).f0.f0),.int .i64 ((rd_T79 t396 x19_3).f0.f1)] (fun _=>True) (fun _=>False) rfl rfl ?aP (fun _ hk=>hk.elim) ?aF ?aO ?aB ?aS ?aL ?_;(case aP=>exact k55_mkM _ _ _ (⟨(rd_T79 t396 x19_3).f0.f0,(rd_T79 t396 x19_3).f0.f1⟩ : S55));(case aB=>exact (by repeat (first|(with_reducible first|exact HB.out|apply below_alloc|apply pw_below_drewN|apply below_drew1)|exact HB.out)));(case aF=>exact (fun _ _=>trivial));(case aO=>exact (by (with_reducible repeat (first|apply Kd.R_alloc|apply Kd.R_drewN|apply Kd.R_drew));exact HO_14.out));(case aS=>exact (below_size (by repeat (first|(with_reducible first|exact HB.out|apply below_alloc|apply pw_below_drewN|apply below_drew1)|exact HB.out))));(case aL=>have:=LMc50.out;omega);intro v434 w51 ho hb hg hat;rw [← Ny433.out] at ho;have n0_:=Aside0.mk (Kd.R_over' (by (with_reducible repeat (first|apply Kd.R_alloc|apply Kd.R_drewN|apply Kd.R_drew));exact HO_9.out) (Kd.R_typed (by (with_reducible repeat (first|apply Kd.R_alloc|apply Kd.R_drewN|apply Kd.R_drew));exact HO_14.out)) (by decide) hg);have n1_:=Aside0.mk (Kd.N_afterv (ok:=(fun k_=>some k_ ≠ (.slice (some ad428) t396.length co23 : Value).ownBlock)) (by (with_reducible repeat (first|apply Kd.N_alloc|apply Kd.N_drewN|apply Kd.N_drew));exact HO_10.out) hg hat);have n2_:=Aside0.mk (Kd.V_afterv (ok:=(fun k_=>some k_ ≠ (.slice (some ad428) t396.length co23 : Value).ownBlock ∧ some k_ ≠ (.slice (some ad427) x10_1.length co19 : Value).ownBlock)) (by (with_reducible repeat (first|apply Kd.V_alloc|apply Kd.V_drewN|apply Kd.V_drew));exact Kd.V_mono HL427_0.out (fun _ hk=>⟨⟨hk.1.1,hk.2⟩,hk.1.2⟩)) hg hat);have n3_:=Aside0.mk (Kd.V_afterv (ok:=(fun k_=>some k_ ≠ (.slice (some ad428) t396.length co23 : Value).ownBlock ∧ some k_ ≠ (.slice (some ad427) x10_1.length co19 : Value).ownBlock)) (by (with_reducible repeat (first|apply Kd.V_alloc|apply Kd.V_drewN|apply Kd.V_drew));exact Kd.V_mono HL429_0.out (fun _ hk=>⟨⟨hk.1.1,hk.2⟩,hk.1.2⟩)) hg hat);have n4_:=Aside0.mk (hb);have n5_:=Aside0.mk (ho);clear HO_9;clear HO_10;clear HL427_0;clear HL429_0;clear HB;clear HO_14;have HO_9:=n0_;have HO_10:=n1_;have HL427_0:=n2_;have HL429_0:=n3_;have HB:=n4_;have HO435:=n5_;clear n0_ n1_ n2_ n3_ n4_ n5_;clear ho hb hg hat;have p436 : 0 ≤ (x19_3 : Int):=of_decide_eq_true (by first|(with_reducible assumption)|assumption);have q436 : x19_3 < (t396.length : Int):=of_decide_eq_true (by first|(with_reducible assumption)|assumption);obtain ⟨ad436,e436,hx436_0,hx436_1,hx436_2,hx436_3,hx436_4⟩:=at_T79 (Kd.R_reads' HO_9.out).2.2 x19_3 p436 q436;obtain rfl : ad428 = ad436:=(by injection e436);replace p436:=eq_true p436;replace q436:=eq_true q436;have p437 : 0 ≤ (x19_3 : Int):=of_decide_eq_true (by first|(with_reducible assumption)|assumption);have q437 : x19_3 < (t396.length : Int):=of_decide_eq_true (by first|(with_reducible assumption)|assumption);obtain ⟨ad437,e437,hx437_0,hx437_1,hx437_2,hx437_3,hx437_4⟩:=at_T79 (Kd.R_reads' HO_9.out).2.2 x19_3 p437 q437;obtain rfl : ad428 = ad437:=(by injection e437);replace p437:=eq_true p437;replace q437:=eq_true q437));try go_wp2_with (first|((with_reducible refine gate_builtin (b:=.append) (xs:=#[.tmp 131,.tmp 137]) rfl ?_);at_builtin;refine Kd.R_append k55 (w0:=w) w.heap.size rfl (.tmp 131) (.tmp 137) 39 55 (.agg #[(.int .i64 0),(.int .i64 0)]) 16 rfl Try.underlying39 info55 rfl (by decide) (by omega) u14 x14_3 (⟨(rd_T79 t396 x19_3).f0.f0,(rd_T79 t396 x19_3).f0.f1⟩ : S55) [.int .i64 ((rd_T79 t396 x19_3).f0.f0),.int .i64 ((rd_T79 t396 x19_3).f0.f1)] (fun _=>True) (fun _=>False) rfl rfl ?aP (fun _ hk=>hk.elim) ?aF ?aO ?aB ?aS ?aL ?_;(case aP=>exact k55_mkM _ _ _ (⟨(rd_T79 t396 x19_3).f0.f0,(rd_T79 t396 x19_3).f0.f1⟩ : S55));(case aB=>exact (by repeat (first|(with_reducible first|exact HB.out|apply below_alloc|apply pw_below_drewN|apply below_drew1)|exact HB.out)));(case aF=>exact (fun _ _=>trivial));(case aO=>exact (by (with_reducible repeat (first|apply Kd.R_alloc|apply Kd.R_drewN|apply Kd.R_drew));exact HO_14.out));(case aS=>exact (below_size (by repeat (first|(with_reducible first|exact HB.out|apply below_alloc|apply pw_below_drewN|apply below_drew1)|exact HB.out))));(case aL=>have:=LMc50.out;omega);intro v434 w51 ho hb hg hat;rw [← Ny433.out] at ho;have n0_:=Aside0.mk (Kd.R_over' (by (with_reducible repeat (first|apply Kd.R_alloc|apply Kd.R_drewN|apply Kd.R_drew));exact HO_9.out) (Kd.R_typed (by (with_reducible repeat (first|apply Kd.R_alloc|apply Kd.R_drewN|apply Kd.R_drew));exact HO_14.out)) (by decide) hg);have n1_:=Aside0.mk (Kd.N_afterv (ok:=(fun k_=>some k_ ≠ (.slice (some ad428) t396.length co23 : Value).ownBlock)) (by (with_reducible repeat (first|apply Kd.N_alloc|apply Kd.N_drewN|apply Kd.N_drew));exact HO_10.out) hg hat);have n2_:=Aside0.mk (Kd.V_afterv (ok:=(fun k_=>some k_ ≠ (.slice (some ad428) t396.length co23 : Value).ownBlock ∧ some k_ ≠ (.slice (some ad427) x10_1.length co19 : Value).ownBlock)) (by (with_reducible repeat (first|apply Kd.V_alloc|apply Kd.V_drewN|apply Kd.V_drew));exact Kd.V_mono HL427_0.out (fun _ hk=>⟨⟨hk.1.1,hk.2⟩,hk.1.2⟩)) hg hat);have n3_:=Aside0.mk (Kd.V_afterv (ok:=(fun k_=>some k_ ≠ (.slice (some ad428) t396.length co23 : Value).ownBlock ∧ some k_ ≠ (.slice (some ad427) x10_1.length co19 : Value).ownBlock)) (by (with_reducible repeat (first|apply Kd.V_alloc|apply Kd.V_drewN|apply Kd.V_drew));exact Kd.V_mono HL429_0.out (fun _ hk=>⟨⟨hk.1.1,hk.2⟩,hk.1.2⟩)) hg hat);have n4_:=Aside0.mk (hb);have n5_:=Aside0.mk (ho);clear HO_9;clear HO_10;clear HL427_0;clear HL429_0;clear HB;clear HO_14;have HO_9:=n0_;have HO_10:=n1_;have HL427_0:=n2_;have HL429_0:=n3_;have HB:=n4_;have HO435:=n5_;clear n0_ n1_ n2_ n3_ n4_ n5_;clear ho hb hg hat;have p436 : 0 ≤ (x19_3 : Int):=of_decide_eq_true (by first|(with_reducible assumption)|assumption);have q436 : x19_3 < (t396.length : Int):=of_decide_eq_true (by first|(with_reducible assumption)|assumption);obtain ⟨ad436,e436,hx436_0,hx436_1,hx436_2,hx436_3,hx436_4⟩:=at_T79 (Kd.R_reads' HO_9.out).2.2 x19_3 p436 q436;obtain rfl : ad428 = ad436:=(by injection e436);replace p436:=eq_true p436;replace q436:=eq_true q436;have p437 : 0 ≤ (x19_3 : Int):=of_decide_eq_true (by first|(with_reducible assumption)|assumption);have q437 : x19_3 < (t396.length : Int):=of_decide_eq_true (by first|(with_reducible assumption)|assumption);obtain ⟨ad437,e437,hx437_0,hx437_1,hx437_2,hx437_3,hx437_4⟩:=at_T79 (Kd.R_reads' HO_9.out).2.2 x19_3 p437 q437;obtain rfl : ad428 = ad437:=(by injection e437);replace p437:=eq_true p437;replace q437:=eq_true q437)))
                           go_roundg kj21
                           case measure=>have:=HK1.out;have:=HK2.out;have:=HK3.out;have:=HJ21.out;omega
                           case rel=>exact ⟨(y433),(x15_3),((rd_T79 t396 x19_3).f2),(wrap64 (x17_3 + ((rd_T79 t396 x19_3).f3))),(wrap64 (x18_2 - 1)),(by first|rfl|(simp;done)|(simp [*];done)),(by first|rfl|(simp;done)|(simp [*];done)),(by first|rfl|(simp;done)|(simp [*];done)),(by first|rfl|(simp;done)|(simp [*];done)),H',⟨by have:=HK1.out;have:=HK2.out;have:=HK3.out;have:=HJ21.out;omega⟩,⟨by (with_reducible repeat (first|apply Kd.R_alloc|apply Kd.R_drewN|apply Kd.R_drew));exact HO_9.out⟩,⟨by (with_reducible repeat (first|apply Kd.N_alloc|apply Kd.N_drewN|apply Kd.N_drew));exact HO_10.out⟩,⟨by (with_reducible repeat (first|apply Kd.R_alloc|apply Kd.R_drewN|apply Kd.R_drew));exact HO435.out⟩,⟨by repeat (first|(with_reducible first|exact HB.out|apply below_alloc|apply pw_below_drewN|apply below_drew1)|exact HB.out)⟩⟩
                          ·rw [if_neg c50] at H
                           exact absurd H (by simp)
                         ·rw [if_neg c49] at H
                          have c49b0 : decide ((wrap64 ((wrap64 (x17_3 + ((rd_T79 t396 x19_3).f3))) + (rd (rd_L5 (rd_L6 x10_1 x18_2) ((rd_T79 t396 x19_3).f2)) x15_3))) < 0) = false:=decide_eq_false c49
                          clear c49
                          have H':=Aside0.mk H
                          clear H
                          have p427 : 0 ≤ (x18_2 : Int):=of_decide_eq_true (by first|(with_reducible assumption)|assumption)
                          have q427 : x18_2 < (x10_1.length : Int):=of_decide_eq_true (by first|(with_reducible assumption)|assumption)
                          obtain ⟨ad427,A427_0,c427_0,e427,hx427_0,hl427_0,hi427_0⟩:=at_L6 (Kd.N_reads' HO_10.out).2.2 x18_2 p427 q427
                          cases e427
                          obtain ⟨ce427,hce427,hMe427,hcc427⟩:=Kd.N_get HO_10.out [] x18_2 p427 (by first|exact q427|exact of_decide_eq_true (by first|(with_reducible assumption)|assumption)|(have e_:=(Kd.N_reads' HO_10.out).1;omega))
                          obtain ⟨ua427_0,uc427_0,rfl,ul427_0,ge427_0⟩:=Kd.FK_slice_open hMe427
                          have hv427_0:=hcc427 0 _ rfl
                          rw [Nat.add_zero,show ((Kd.slice 36 (Kd.slice 3 (Kd.int .i64)))).sz = 1 from rfl,Nat.mul_one] at hv427_0
                          replace hv427_0:=Option.some.inj (hv427_0.symm.trans hx427_0)
                          injection hv427_0 with hva_ hvn_ hvc_
                          rw [hva_] at ge427_0
                          rw [hvc_] at ul427_0
                          have HL427_0:=Aside0.mk (show Kd.V (Kd.slice 3 (Kd.int .i64)) 36 _ w.heap.size _ _ (rd_L6 x10_1 x18_2) from Kd.V_mk ul427_0 ge427_0)
                          clear hva_ hvn_ hvc_ ge427_0 ul427_0
                          clear hcc427 hce427
                          have HR427_0:=Aside0.mk hi427_0
                          have HC427_0:=Aside0.mk hl427_0
                          clear hi427_0 hl427_0
                          replace p427:=eq_true p427
                          replace q427:=eq_true q427
                          have p428 : 0 ≤ (x19_3 : Int):=of_decide_eq_true (by first|(with_reducible assumption)|assumption)
                          have q428 : x19_3 < (t396.length : Int):=of_decide_eq_true (by first|(with_reducible assumption)|assumption)
                          obtain ⟨ad428,e428,hx428_0,hx428_1,hx428_2,hx428_3,hx428_4⟩:=at_T79 (Kd.R_reads' HO_9.out).2.2 x19_3 p428 q428
                          cases e428
                          replace p428:=eq_true p428
                          replace q428:=eq_true q428
                          have p429 : 0 ≤ (((rd_T79 t396 x19_3).f2) : Int):=of_decide_eq_true (by first|(with_reducible assumption)|assumption)
                          have q429 : ((rd_T79 t396 x19_3).f2) < ((rd_L6 x10_1 x18_2).length : Int):=of_decide_eq_true (by first|(with_reducible assumption)|assumption)
                          obtain ⟨ad429,A429_0,c429_0,e429,hx429_0,hl429_0,hi429_0⟩:=at_L5 (by repeat (first|(with_reducible exact HR427_0.out)|(with_reducible refine Kd.C_alloc ?_ _)|(with_reducible refine Kd.C_drewN ?_ _)|(with_reducible refine Kd.C_drew ?_)|exact HR427_0.out)) ((rd_T79 t396 x19_3).f2) p429 q429
                          cases e429
                          obtain ⟨ce429,hce429,hMe429,hcc429⟩:=Kd.V_get HL427_0.out [] ((rd_T79 t396 x19_3).f2) p429 (by first|exact q429|exact of_decide_eq_true (by first|(with_reducible assumption)|assumption)|(have e_:=(Kd.V_reads' HL427_0.out).1;omega))
                          obtain ⟨ua429_0,uc429_0,rfl,ul429_0,ge429_0⟩:=Kd.FK_slice_open hMe429
                          have hv429_0:=hcc429 0 _ rfl
                          rw [Nat.add_zero,show ((Kd.slice 3 (Kd.int .i64))).sz = 1 from rfl,Nat.mul_one] at hv429_0
                          replace hv429_0:=Option.some.inj (hv429_0.symm.trans hx429_0)
                          injection hv429_0 with hva_ hvn_ hvc_
                          rw [hva_] at ge429_0
                          rw [hvc_] at ul429_0
                          have HL429_0:=Aside0.mk (show Kd.V (Kd.int .i64) 3 _ w.heap.size _ _ (rd_L5 (rd_L6 x10_1 x18_2) ((rd_T79 t396 x19_3).f2)) from Kd.V_mk ul429_0 ge429_0)
                          clear hva_ hvn_ hvc_ ge429_0 ul429_0
                          clear hcc429 hce429
                          have HR429_0:=Aside0.mk hi429_0
                          have HC429_0:=Aside0.mk hl429_0
                          clear hi429_0 hl429_0
                          replace p429:=eq_true p429
                          replace q429:=eq_true q429
                          have p430 : 0 ≤ (x15_3 : Int):=of_decide_eq_true (by first|(with_reducible assumption)|assumption)
                          have q430 : x15_3 < ((rd_L5 (rd_L6 x10_1 x18_2) ((rd_T79 t396 x19_3).f2)).length : Int):=of_decide_eq_true (by first|(with_reducible assumption)|assumption)
                          obtain ⟨ad430,e430,hx430_0⟩:=Kd.at_int (by repeat (first|(with_reducible exact HR429_0.out)|(with_reducible refine Kd.C_alloc ?_ _)|(with_reducible refine Kd.C_drewN ?_ _)|(with_reducible refine Kd.C_drew ?_)|exact HR429_0.out)) x15_3 p430 q430
                          cases e430
                          replace p430:=eq_true p430
                          replace q430:=eq_true q430
                          have p431 : 0 ≤ (x19_3 : Int):=of_decide_eq_true (by first|(with_reducible assumption)|assumption)
                          have q431 : x19_3 < (t396.length : Int):=of_decide_eq_true (by first|(with_reducible assumption)|assumption)
                          obtain ⟨ad431,e431,hx431_0,hx431_1,hx431_2,hx431_3,hx431_4⟩:=at_T79 (Kd.R_reads' HO_9.out).2.2 x19_3 p431 q431
                          obtain rfl : ad428 = ad431:=(by injection e431)
                          replace p431:=eq_true p431
                          replace q431:=eq_true q431
                          go_wp2
                          repeat (go_quiet (fail);try go_wp2)
                          go_roundg kj21
                          case measure=>have:=HK1.out;have:=HK2.out;have:=HK3.out;have:=HJ21.out;omega
                          case rel=>exact ⟨(x14_3),(x15_3),(x16_3),(x17_3),(wrap64 (x19_3 + 1)),(by first|rfl|(simp;done)|(simp [*];done)),(by first|rfl|(simp;done)|(simp [*];done)),(by first|rfl|(simp;done)|(simp [*];done)),(by first|rfl|(simp;done)|(simp [*];done)),H',⟨by have:=HK1.out;have:=HK2.out;have:=HK3.out;have:=HJ21.out;omega⟩,⟨by (with_reducible repeat (first|apply Kd.R_alloc|apply Kd.R_drewN|apply Kd.R_drew));exact HO_9.out⟩,⟨by (with_reducible repeat (first|apply Kd.N_alloc|apply Kd.N_drewN|apply Kd.N_drew));exact HO_10.out⟩,⟨by (with_reducible repeat (first|apply Kd.R_alloc|apply Kd.R_drewN|apply Kd.R_drew));exact HO_14.out⟩,⟨by repeat (first|(with_reducible first|exact HB.out|apply below_alloc|apply pw_below_drewN|apply below_drew1)|exact HB.out)⟩⟩
                        ·rw [if_neg c48] at H
                         have c48b0 : decide ((rd (rd_L5 (rd_L6 x10_1 x18_2) ((rd_T79 t396 x19_3).f2)) x15_3) < 1125899906842624) = false:=decide_eq_false c48
                         clear c48
                         have H':=Aside0.mk H
                         clear H
                         have p427 : 0 ≤ (x18_2 : Int):=of_decide_eq_true (by first|(with_reducible assumption)|assumption)
                         have q427 : x18_2 < (x10_1.length : Int):=of_decide_eq_true (by first|(with_reducible assumption)|assumption)
                         obtain ⟨ad427,A427_0,c427_0,e427,hx427_0,hl427_0,hi427_0⟩:=at_L6 (Kd.N_reads' HO_10.out).2.2 x18_2 p427 q427
                         cases e427
                         obtain ⟨ce427,hce427,hMe427,hcc427⟩:=Kd.N_get HO_10.out [] x18_2 p427 (by first|exact q427|exact of_decide_eq_true (by first|(with_reducible assumption)|assumption)|(have e_:=(Kd.N_reads' HO_10.out).1;omega))
                         obtain ⟨ua427_0,uc427_0,rfl,ul427_0,ge427_0⟩:=Kd.FK_slice_open hMe427
                         have hv427_0:=hcc427 0 _ rfl
                         rw [Nat.add_zero,show ((Kd.slice 36 (Kd.slice 3 (Kd.int .i64)))).sz = 1 from rfl,Nat.mul_one] at hv427_0
                         replace hv427_0:=Option.some.inj (hv427_0.symm.trans hx427_0)
                         injection hv427_0 with hva_ hvn_ hvc_
                         rw [hva_] at ge427_0
                         rw [hvc_] at ul427_0
                         have HL427_0:=Aside0.mk (show Kd.V (Kd.slice 3 (Kd.int .i64)) 36 _ w.heap.size _ _ (rd_L6 x10_1 x18_2) from Kd.V_mk ul427_0 ge427_0)
                         clear hva_ hvn_ hvc_ ge427_0 ul427_0
                         clear hcc427 hce427
                         have HR427_0:=Aside0.mk hi427_0
                         have HC427_0:=Aside0.mk hl427_0
                         clear hi427_0 hl427_0
                         replace p427:=eq_true p427
                         replace q427:=eq_true q427
                         have p428 : 0 ≤ (x19_3 : Int):=of_decide_eq_true (by first|(with_reducible assumption)|assumption)
                         have q428 : x19_3 < (t396.length : Int):=of_decide_eq_true (by first|(with_reducible assumption)|assumption)
                         obtain ⟨ad428,e428,hx428_0,hx428_1,hx428_2,hx428_3,hx428_4⟩:=at_T79 (Kd.R_reads' HO_9.out).2.2 x19_3 p428 q428
                         cases e428
                         replace p428:=eq_true p428
                         replace q428:=eq_true q428
                         have p429 : 0 ≤ (((rd_T79 t396 x19_3).f2) : Int):=of_decide_eq_true (by first|(with_reducible assumption)|assumption)
                         have q429 : ((rd_T79 t396 x19_3).f2) < ((rd_L6 x10_1 x18_2).length : Int):=of_decide_eq_true (by first|(with_reducible assumption)|assumption)
                         obtain ⟨ad429,A429_0,c429_0,e429,hx429_0,hl429_0,hi429_0⟩:=at_L5 (by repeat (first|(with_reducible exact HR427_0.out)|(with_reducible refine Kd.C_alloc ?_ _)|(with_reducible refine Kd.C_drewN ?_ _)|(with_reducible refine Kd.C_drew ?_)|exact HR427_0.out)) ((rd_T79 t396 x19_3).f2) p429 q429
                         cases e429
                         obtain ⟨ce429,hce429,hMe429,hcc429⟩:=Kd.V_get HL427_0.out [] ((rd_T79 t396 x19_3).f2) p429 (by first|exact q429|exact of_decide_eq_true (by first|(with_reducible assumption)|assumption)|(have e_:=(Kd.V_reads' HL427_0.out).1;omega))
                         obtain ⟨ua429_0,uc429_0,rfl,ul429_0,ge429_0⟩:=Kd.FK_slice_open hMe429
                         have hv429_0:=hcc429 0 _ rfl
                         rw [Nat.add_zero,show ((Kd.slice 3 (Kd.int .i64))).sz = 1 from rfl,Nat.mul_one] at hv429_0
                         replace hv429_0:=Option.some.inj (hv429_0.symm.trans hx429_0)
                         injection hv429_0 with hva_ hvn_ hvc_
                         rw [hva_] at ge429_0
                         rw [hvc_] at ul429_0
                         have HL429_0:=Aside0.mk (show Kd.V (Kd.int .i64) 3 _ w.heap.size _ _ (rd_L5 (rd_L6 x10_1 x18_2) ((rd_T79 t396 x19_3).f2)) from Kd.V_mk ul429_0 ge429_0)
                         clear hva_ hvn_ hvc_ ge429_0 ul429_0
                         clear hcc429 hce429
                         have HR429_0:=Aside0.mk hi429_0
                         have HC429_0:=Aside0.mk hl429_0
                         clear hi429_0 hl429_0
                         replace p429:=eq_true p429
                         replace q429:=eq_true q429
                         have p430 : 0 ≤ (x15_3 : Int):=of_decide_eq_true (by first|(with_reducible assumption)|assumption)
                         have q430 : x15_3 < ((rd_L5 (rd_L6 x10_1 x18_2) ((rd_T79 t396 x19_3).f2)).length : Int):=of_decide_eq_true (by first|(with_reducible assumption)|assumption)
                         obtain ⟨ad430,e430,hx430_0⟩:=Kd.at_int (by repeat (first|(with_reducible exact HR429_0.out)|(with_reducible refine Kd.C_alloc ?_ _)|(with_reducible refine Kd.C_drewN ?_ _)|(with_reducible refine Kd.C_drew ?_)|exact HR429_0.out)) x15_3 p430 q430
                         cases e430
                         replace p430:=eq_true p430
                         replace q430:=eq_true q430
                         go_wp2
                         repeat (go_quiet (fail);try go_wp2)
                         go_roundg kj21
                         case measure=>have:=HK1.out;have:=HK2.out;have:=HK3.out;have:=HJ21.out;omega
                         case rel=>exact ⟨(x14_3),(x15_3),(x16_3),(x17_3),(wrap64 (x19_3 + 1)),(by first|rfl|(simp;done)|(simp [*];done)),(by first|rfl|(simp;done)|(simp [*];done)),(by first|rfl|(simp;done)|(simp [*];done)),(by first|rfl|(simp;done)|(simp [*];done)),H',⟨by have:=HK1.out;have:=HK2.out;have:=HK3.out;have:=HJ21.out;omega⟩,⟨by (with_reducible repeat (first|apply Kd.R_alloc|apply Kd.R_drewN|apply Kd.R_drew));exact HO_9.out⟩,⟨by (with_reducible repeat (first|apply Kd.N_alloc|apply Kd.N_drewN|apply Kd.N_drew));exact HO_10.out⟩,⟨by (with_reducible repeat (first|apply Kd.R_alloc|apply Kd.R_drewN|apply Kd.R_drew));exact HO_14.out⟩,⟨by repeat (first|(with_reducible first|exact HB.out|apply below_alloc|apply pw_below_drewN|apply below_drew1)|exact HB.out)⟩⟩
                       ·rw [if_neg c47] at H
                        exact absurd H (by simp)
                      ·rw [if_neg c46] at H
                       exact absurd H (by simp)
                     ·rw [if_neg c45] at H
                      exact absurd H (by simp)
                    ·rw [if_neg c44] at H
                     exact absurd H (by simp)
                   ·rw [if_neg c43] at H
                    exact absurd H (by simp)
                  ·rw [if_neg c42] at H
                   exact absurd H (by simp)
                 ·rw [if_neg c41] at H
                  exact absurd H (by simp)
                ·rw [if_neg c40] at H
                 exact absurd H (by simp)
           ·rw [if_neg c21] at H
            have c21b0 : decide (x19_3 < (t396.length : Int)) = false:=decide_eq_false c21
            clear c21
            have H':=Aside0.mk H
            clear H
            obtain ⟨Ao52,co52,eo52⟩:=Kd.R_slice HO_9.out
            subst eo52
            go_wp2
            go_roundg k3
            case measure=>have:=HK1.out;have:=HK2.out;have:=HK3.out;omega
            case rel=>exact ⟨(x14_3),(x15_3),(x16_3),(x17_3),(wrap64 (x18_2 - 1)),(by first|rfl|(simp;done)|(simp [*];done)),(by first|rfl|(simp;done)|(simp [*];done)),(by first|rfl|(simp;done)|(simp [*];done)),(by first|rfl|(simp;done)|(simp [*];done)),H',⟨by have:=HK1.out;have:=HK2.out;have:=HK3.out;omega⟩,⟨by (with_reducible repeat (first|apply Kd.R_alloc|apply Kd.R_drewN|apply Kd.R_drew));exact HO_9.out⟩,⟨by (with_reducible repeat (first|apply Kd.N_alloc|apply Kd.N_drewN|apply Kd.N_drew));exact HO_10.out⟩,⟨by (with_reducible repeat (first|apply Kd.R_alloc|apply Kd.R_drewN|apply Kd.R_drew));exact HO_14.out⟩,⟨by repeat (first|(with_reducible first|exact HB.out|apply below_alloc|apply pw_below_drewN|apply below_drew1)|exact HB.out)⟩⟩
        ·rw [if_neg c20] at H
         have c20b0 : decide (0 ≤ x18_2) = false:=decide_eq_false c20
         clear c20
         simp only [Option.some.injEq,Prod.mk.injEq] at H
         obtain ⟨rfl,rfl⟩:=H
         go_wp2
         go_ret2
         exact ⟨_,by first|rfl|(simp [errW_none,errW_some] <;> rfl)|(simp [*,errW_none,errW_some] <;> rfl),by (with_reducible repeat (first|apply Kd.R_alloc|apply Kd.R_drewN|apply Kd.R_drew));exact HO_14.out,by repeat (first|(with_reducible first|exact HB.out|apply below_alloc|apply pw_below_drewN|apply below_drew1)|exact HB.out)⟩
     ·replace c18:=Bool.eq_false_iff.mpr c18
      subst c18
      have H1 : (if 0 ≤ (wrap64 ((x10_1.length : Int) - 1)) then (if (wrap64 ((x10_1.length : Int) - 1)) < (x10_1.length : Int) then ((scarfjointref03_further.f k1 a0 t396 (rd_L6 x10_1 (wrap64 ((x10_1.length : Int) - 1)))).bind fun t406=>(if x10_1.length < 5864062014805 then (scarfjointref03_Refute.l1 k1 a0 t396 (x10_1 ++ [t406]) false t406 0) else (none))) else (none)) else (none)) = some (r1,r2):=by rw [if_neg (show ¬ (false = true) by decide)] at H;exact H
      clear H
      have H:=H1
      clear H1
      obtain ⟨ji53,hji53⟩ : ∃ j_ : Int,(wrap64 ((x10_1.length : Int) - 1)) = j_:=⟨_,rfl⟩
      replace H : (if 0 ≤ (ji53) then (if (ji53) < (x10_1.length : Int) then ((scarfjointref03_further.f k1 a0 t396 (rd_L6 x10_1 (ji53))).bind fun t406=>(if x10_1.length < 5864062014805 then (scarfjointref03_Refute.l1 k1 a0 t396 (x10_1 ++ [t406]) false t406 0) else (none))) else (none)) else (none)) = some (r1,r2):=by first|(rw [hji53] at H;exact H)|(simp only [hji53] at H ⊢;exact H)
      have hji53w : (IntKind.i64.wrap ((x10_1.length : Int) - 1)) = ji53:=(i64_w _).trans hji53
      by_cases c54 : 0 ≤ (ji53)
      ·rw [if_pos c54] at H
       have c54b0 : decide (0 ≤ (ji53)) = true:=decide_eq_true c54
       clear c54
       by_cases c55 : (ji53) < (x10_1.length : Int)
       ·rw [if_pos c55] at H
        have c55b0 : decide ((ji53) < (x10_1.length : Int)) = true:=decide_eq_true c55
        clear c55
        replace H:=Option.bind_eq_some_iff.mp H
        obtain ⟨t406,A560,H⟩:=H
        replace H : (if x10_1.length < 5864062014805 then (scarfjointref03_Refute.l1 k1 a0 t396 (x10_1 ++ [t406]) false t406 0) else (none)) = some (r1,r2):=H
        have A56:=Aside0.mk A560
        clear A560
        by_cases c57 : x10_1.length < 5864062014805
        ·rw [if_pos c57] at H
         have LMc57:=Aside0.mk c57
         clear c57
         obtain ⟨y409,hy409⟩ : ∃ y_ : List (List (List Int)),y_ = (x10_1 ++ [t406]):=⟨_,rfl⟩
         replace H : (scarfjointref03_Refute.l1 k1 a0 t396 y409 false t406 0) = some (r1,r2):=by first|(rw [hy409];with_reducible exact H)|(have H2_:=(Option.bind_some _ _).symm.trans H;rw [hy409];with_reducible exact H2_)|(have H2_:=(Option.bind_some _ _).symm.trans H;with_reducible exact H2_)|with_reducible exact H|(rw [hy409];exact H)|exact H
         have Ny409:=Aside0.mk hy409
         clear hy409
         have H':=Aside0.mk H
         clear H
         obtain ⟨Ao58,co58,eo58⟩:=Kd.N_slice HO_10.out
         subst eo58
         have p405 : 0 ≤ ((ji53) : Int):=of_decide_eq_true (by first|(with_reducible assumption)|assumption)
         have q405 : (ji53) < (x10_1.length : Int):=of_decide_eq_true (by first|(with_reducible assumption)|assumption)
         obtain ⟨ad405,A405_0,c405_0,e405,hx405_0,hl405_0,hi405_0⟩:=at_L6 (Kd.N_reads' HO_10.out).2.2 (ji53) p405 q405
         cases e405
         obtain ⟨ce405,hce405,hMe405,hcc405⟩:=Kd.N_get HO_10.out [] (ji53) p405 (by first|exact q405|exact of_decide_eq_true (by first|(with_reducible assumption)|assumption)|(have e_:=(Kd.N_reads' HO_10.out).1;omega))
         obtain ⟨ua405_0,uc405_0,rfl,ul405_0,ge405_0⟩:=Kd.FK_slice_open hMe405
         have hv405_0:=hcc405 0 _ rfl
         rw [Nat.add_zero,show ((Kd.slice 36 (Kd.slice 3 (Kd.int .i64)))).sz = 1 from rfl,Nat.mul_one] at hv405_0
         replace hv405_0:=Option.some.inj (hv405_0.symm.trans hx405_0)
         injection hv405_0 with hva_ hvn_ hvc_
         rw [hva_] at ge405_0
         rw [hvc_] at ul405_0
         have HL405_0:=Aside0.mk (show Kd.V (Kd.slice 3 (Kd.int .i64)) 36 _ w.heap.size _ _ (rd_L6 x10_1 (ji53)) from Kd.V_mk ul405_0 ge405_0)
         clear hva_ hvn_ hvc_ ge405_0 ul405_0
         clear hcc405 hce405
         have HR405_0:=Aside0.mk hi405_0
         have HC405_0:=Aside0.mk hl405_0
         clear hi405_0 hl405_0
         replace p405:=eq_true p405
         replace q405:=eq_true q405
         obtain ⟨Ao59,co59,eo59⟩:=Kd.R_slice HO_9.out
         subst eo59
         go_wp2_with (first|(go_at_call 52;(with_reducible refine (scarfjointref03_further.calls k1 a0 _ _ t396 _ _ (rd_L6 x10_1 (ji53)) t406 _ ?side1 ?side2 ?side3 ?side4 A56.out).mono ?_);(case side1=>repeat (first|exact (Kd.R_reads' HO_9.out).2.2|(with_reducible refine Kd.C_alloc ?_ _)|(with_reducible refine Kd.C_drewN ?_ _)|(with_reducible refine Kd.C_drew ?_)));(case side2=>exact (Kd.R_reads' HO_9.out).2.1);(case side3=>repeat (first|exact (by repeat (first|(with_reducible exact HR405_0.out)|(with_reducible refine Kd.C_alloc ?_ _)|(with_reducible refine Kd.C_drewN ?_ _)|(with_reducible refine Kd.C_drew ?_)|exact HR405_0.out))|(with_reducible refine Kd.C_alloc ?_ _)|(with_reducible refine Kd.C_drewN ?_ _)|(with_reducible refine Kd.C_drew ?_)));(case side4=>exact HC405_0.out);rintro e w60 ⟨v407,rfl,ho0,hb⟩;have n0_:=Aside0.mk (Kd.R_below (by (with_reducible repeat (first|apply Kd.R_alloc|apply Kd.R_drewN|apply Kd.R_drew));exact HO_9.out) hb);have n1_:=Aside0.mk (Kd.N_elder' (by (with_reducible repeat (first|apply Kd.N_alloc|apply Kd.N_drewN|apply Kd.N_drew));exact HO_10.out) (Kd.S_base ho0) hb);have n2_:=Aside0.mk (Kd.V_elder' (by (with_reducible repeat (first|apply Kd.V_alloc|apply Kd.V_drewN|apply Kd.V_drew));exact HL405_0.out) (Kd.S_base ho0) hb);have n3_:=Aside0.mk (Kd.N_lower (Kd.N_mono (ok':=fun k_=>some k_ ≠ (.slice Ao59 t396.length co59 : Value).ownBlock ∧ some k_ ≠ (.slice (some ad405) x10_1.length co58 : Value).ownBlock) (Kd.S_N (Kd.S_bound ho0)) (fun k_ hk_=>⟨(Kd.fresh' (Kd.R_lt (by (with_reducible repeat (first|apply Kd.R_alloc|apply Kd.R_drewN|apply Kd.R_drew));exact HO_9.out)) k_ hk_.2.1),(Kd.fresh' (Kd.N_lt (by (with_reducible repeat (first|apply Kd.N_alloc|apply Kd.N_drewN|apply Kd.N_drew));exact HO_10.out)) k_ hk_.2.1)⟩)) (below_size (by repeat (first|(with_reducible first|exact HB.out|apply below_alloc|apply pw_below_drewN|apply below_drew1)|exact HB.out))));have n4_:=Aside0.mk (Kd.C_below (by repeat (first|(with_reducible exact HR405_0.out)|(with_reducible refine Kd.C_alloc ?_ _)|(with_reducible refine Kd.C_drewN ?_ _)|(with_reducible refine Kd.C_drew ?_)|exact HR405_0.out)) hb);have n5_:=Aside0.mk (below_step (by repeat (first|(with_reducible first|exact HB.out|apply below_alloc|apply pw_below_drewN|apply below_drew1)|exact HB.out)) hb);clear HO_9;clear HO_10;clear HL405_0;clear HR405_0;clear HB;have HO_9:=n0_;have HO_10:=n1_;have HL405_0:=n2_;have HO408:=n3_;have HR405_0:=n4_;have HB:=n5_;clear n0_ n1_ n2_ n3_ n4_ n5_;(try clear hb);(try clear hb2);(try clear hk);(try clear hi);(try clear ho0);obtain ⟨Ao62,co62,eo62⟩:=Kd.N_slice HO408.out;subst eo62)|((with_reducible refine gate_builtin (b:=.append) (xs:=#[.tmp 51,.tmp 53]) rfl ?_);at_builtin;refine Kd.N_append (Kd.slice 36 (Kd.slice 3 (Kd.int .i64))) (w0:=w) w.heap.size rfl (.tmp 51) (.tmp 53) 89 73 (.slice none 0 0) 24 rfl Try.underlying89 info73 rfl (by decide) (by omega) (.slice (some ad405) x10_1.length co58) x10_1 t406 [.slice Ao62 t406.length co62] (fun k_=>some k_ ≠ (.slice Ao59 t396.length co59 : Value).ownBlock) (fun k_=>((fun k_=>some k_ ≠ (.slice Ao59 t396.length co59 : Value).ownBlock)) k_ ∧ some k_ ≠ (.slice (some ad405) x10_1.length co58 : Value).ownBlock) rfl rfl ?aP (fun _ hk=>hk) ?aF ?aO ?aB ?aS ?aL ?_;(case aP=>exact (Kd.FK_slice_mk (Kd.N_reads' (Kd.N_mono (ok':=(fun k_=>((fun k_=>some k_ ≠ (.slice Ao59 t396.length co59 : Value).ownBlock)) k_ ∧ some k_ ≠ (.slice (some ad405) x10_1.length co58 : Value).ownBlock)) (HO408.out) (fun k_ hk=>⟨hk.1,hk.2⟩))).2.1 (Kd.N_F (Kd.N_mono (ok':=(fun k_=>((fun k_=>some k_ ≠ (.slice Ao59 t396.length co59 : Value).ownBlock)) k_ ∧ some k_ ≠ (.slice (some ad405) x10_1.length co58 : Value).ownBlock)) (HO408.out) (fun k_ hk=>⟨hk.1,hk.2⟩)))));(case aB=>exact (by repeat (first|(with_reducible first|exact HB.out|apply below_alloc|apply pw_below_drewN|apply below_drew1)|exact HB.out)));(case aF=>exact (fun k_ hk=>Kd.fresh' (Kd.R_lt (by (with_reducible repeat (first|apply Kd.R_alloc|apply Kd.R_drewN|apply Kd.R_drew));exact HO_9.out)) k_ hk));(case aO=>exact (by (with_reducible repeat (first|apply Kd.N_alloc|apply Kd.N_drewN|apply Kd.N_drew));exact Kd.N_mono HO_10.out (fun _ hk=>hk.1)));(case aS=>exact (below_size (by repeat (first|(with_reducible first|exact HB.out|apply below_alloc|apply pw_below_drewN|apply below_drew1)|exact HB.out))));(case aL=>have:=LMc57.out;omega);intro v410 w61 ho hb hg hat;rw [← Ny409.out] at ho;have n0_:=Aside0.mk (Kd.R_over' (by (with_reducible repeat (first|apply Kd.R_alloc|apply Kd.R_drewN|apply Kd.R_drew));exact HO_9.out) (Kd.N_typed (by (with_reducible repeat (first|apply Kd.N_alloc|apply Kd.N_drewN|apply Kd.N_drew));exact HO_10.out)) (by decide) hg);have n1_:=Aside0.mk (Kd.V_afterv (ok:=(fun k_=>some k_ ≠ (.slice Ao59 t396.length co59 : Value).ownBlock ∧ some k_ ≠ (.slice Ao62 t406.length co62 : Value).ownBlock)) (by (with_reducible repeat (first|apply Kd.V_alloc|apply Kd.V_drewN|apply Kd.V_drew));exact Kd.V_mono HL405_0.out (fun _ hk=>⟨⟨hk.1.1,hk.2⟩,hk.1.2⟩)) hg hat);have n2_:=Aside0.mk (hb);have n3_:=Aside0.mk (ho);have n4_:=Aside0.mk (Kd.N_mono (ok':=fun _=>True) (Kd.N_afterv (ok:=fun k_=>some k_ ≠ (.slice Ao59 t396.length co59 : Value).ownBlock) (by (with_reducible repeat (first|apply Kd.N_alloc|apply Kd.N_drewN|apply Kd.N_drew));exact HO408.out) hg hat) (fun _ _=>trivial));clear HO_9;clear HL405_0;clear HB;clear HO_10;clear HO408;have HO408:=n4_;clear n4_;have HO_9:=n0_;have HL405_0:=n1_;have HB:=n2_;have HO411:=n3_;clear n0_ n1_ n2_ n3_;clear ho hb hg hat))
         go_loopg [11,13] k1 (fun kq v11 v13 w'=>∃ (x11_2 : Bool) (x13_2 : Int),v11 = .bool x11_2 ∧ v13 = .int .i64 x13_2 ∧ Aside0 (scarfjointref03_Refute.l1 kq a0 t396 y409 x11_2 t406 x13_2 = some (r1,r2)) ∧ Aside0 (kq ≤ k1) ∧ Aside0 (Kd.R k79 79 w' w.heap.size (fun _=>True) (.slice Ao59 t396.length co59) t396) ∧ Aside0 (Kd.N (Kd.slice 36 (Kd.slice 3 (Kd.int .i64))) 73 w' w.heap.size (fun k_=>some k_ ≠ ((.slice Ao59 t396.length co59) : Value).ownBlock) v410 y409) ∧ Aside0 (Kd.N (Kd.slice 3 (Kd.int .i64)) 36 w' w.heap.size (fun _=>True) (.slice Ao62 t406.length co62) t406) ∧ Aside0 (Below w.heap.size w w'))
         case atStart=>exact ⟨(false),(0),(by first|rfl|(simp;done)|(simp [*];done)),(by first|rfl|(simp;done)|(simp [*];done)),H',⟨Nat.le_refl _⟩,⟨by (with_reducible repeat (first|apply Kd.R_alloc|apply Kd.R_drewN|apply Kd.R_drew));exact HO_9.out⟩,⟨by (with_reducible repeat (first|apply Kd.N_alloc|apply Kd.N_drewN|apply Kd.N_drew));exact HO411.out⟩,⟨by (with_reducible repeat (first|apply Kd.N_alloc|apply Kd.N_drewN|apply Kd.N_drew));exact HO408.out⟩,⟨by repeat (first|(with_reducible first|exact HB.out|apply below_alloc|apply pw_below_drewN|apply below_drew1)|exact HB.out)⟩⟩
         case round =>
          clear H'
          try clear c1
          try clear c2
          try clear p2
          try clear c3
          try clear c4
          try clear p4
          try clear q4
          try clear hx4
          try clear c5
          try clear p6
          try clear c18
          try clear c20
          try clear c20b0
          try clear c21
          try clear c21b0
          try clear c27
          try clear c27b0
          try clear c28
          try clear c29
          try clear c30
          try clear c31
          try clear c32
          try clear c33
          try clear c34
          try clear c35
          try clear c36
          try clear c36b0
          try clear c37
          try clear c37b0
          try clear c38
          try clear c40
          try clear c40b0
          try clear p40
          try clear q40
          try clear hx40
          try clear c41
          try clear c41b0
          try clear p41
          try clear q41
          try clear hx41
          try clear c42
          try clear c42b0
          try clear p42
          try clear q42
          try clear hx42
          try clear c43
          try clear c43b0
          try clear p43
          try clear q43
          try clear hx43
          try clear c44
          try clear c44b0
          try clear c45
          try clear c45b0
          try clear c46
          try clear c46b0
          try clear c47
          try clear c47b0
          try clear c48
          try clear c48b0
          try clear c49
          try clear c49b0
          try clear c50
          try clear c54
          try clear c54b0
          try clear c55
          try clear c55b0
          try clear c57
          try clear hx405_0
          try clear hx415_0
          try clear hx415_1
          try clear hx415_2
          try clear hx415_3
          try clear hx415_4
          try clear hx416_0
          try clear hx417_0
          try clear hx417_1
          try clear hx417_2
          try clear hx417_3
          try clear hx417_4
          try clear hx418_0
          try clear hx419_0
          try clear hx420_0
          try clear hx420_1
          try clear hx420_2
          try clear hx420_3
          try clear hx420_4
          try clear hx421_0
          try clear hx421_1
          try clear hx421_2
          try clear hx421_3
          try clear hx421_4
          try clear hx425_0
          try clear hx425_1
          try clear hx425_2
          try clear hx425_3
          try clear hx425_4
          try clear hx426_0
          try clear hx426_1
          try clear hx426_2
          try clear hx426_3
          try clear hx426_4
          try clear hx427_0
          try clear hx428_0
          try clear hx428_1
          try clear hx428_2
          try clear hx428_3
          try clear hx428_4
          try clear hx429_0
          try clear hx430_0
          try clear hx431_0
          try clear hx431_1
          try clear hx431_2
          try clear hx431_3
          try clear hx431_4
          try clear hx432_0
          try clear hx432_1
          try clear hx432_2
          try clear hx432_3
          try clear hx432_4
          try clear hx436_0
          try clear hx436_1
          try clear hx436_2
          try clear hx436_3
          try clear hx436_4
          try clear hx437_0
          try clear hx437_1
          try clear hx437_2
          try clear hx437_3
          try clear hx437_4
          try clear p405
          try clear p415
          try clear p416
          try clear p417
          try clear p418
          try clear p419
          try clear p420
          try clear p421
          try clear p425
          try clear p426
          try clear p427
          try clear p428
          try clear p429
          try clear p430
          try clear p431
          try clear p432
          try clear p436
          try clear p437
          try clear q405
          try clear q415
          try clear q416
          try clear q417
          try clear q418
          try clear q419
          try clear q420
          try clear q421
          try clear q425
          try clear q426
          try clear q427
          try clear q428
          try clear q429
          try clear q430
          try clear q431
          try clear q432
          try clear q436
          try clear q437
          obtain ⟨x11_2,x13_2,rfl,rfl,HA,HK2,HO_9,HO_10,HO_12,HB⟩:=hrel
          cases gk with
          | zero => exact absurd HA.out (by simp [scarfjointref03_Refute.l1])
          | succ k2 =>
           have H:=HA.out
           clear HA
           simp only [scarfjointref03_Refute.l1] at H
           by_cases c63 : x13_2 ≤ a0
           ·rw [if_pos c63] at H
            have c63b0 : decide (x13_2 ≤ a0) = true:=decide_eq_true c63
            clear c63
            by_cases c64 : x11_2 = true
            ·subst c64
             have H1 : (scarfjointref03_Refute.l1 k2 a0 t396 y409 true t406 (wrap64 (x13_2 + 1))) = some (r1,r2):=by rw [if_pos rfl] at H;exact H
             clear H
             have H:=H1
             clear H1
             have H':=Aside0.mk H
             clear H
             go_wp2
             go_roundg k2
             case measure=>have:=HK1.out;have:=HK2.out;omega
             case rel=>exact ⟨(true),(wrap64 (x13_2 + 1)),(by first|rfl|(simp;done)|(simp [*];done)),(by first|rfl|(simp;done)|(simp [*];done)),H',⟨by have:=HK1.out;have:=HK2.out;omega⟩,⟨by (with_reducible repeat (first|apply Kd.R_alloc|apply Kd.R_drewN|apply Kd.R_drew));exact HO_9.out⟩,⟨by (with_reducible repeat (first|apply Kd.N_alloc|apply Kd.N_drewN|apply Kd.N_drew));exact HO_10.out⟩,⟨by (with_reducible repeat (first|apply Kd.N_alloc|apply Kd.N_drewN|apply Kd.N_drew));exact HO_12.out⟩,⟨by repeat (first|(with_reducible first|exact HB.out|apply below_alloc|apply pw_below_drewN|apply below_drew1)|exact HB.out)⟩⟩
            ·replace c64:=Bool.eq_false_iff.mpr c64
             subst c64
             have H1 : (if 0 ≤ x13_2 then (if x13_2 < (t406.length : Int) then (if x13_2 < ((rd_L5 t406 x13_2).length : Int) then (scarfjointref03_Refute.l1 k2 a0 t396 y409 (decide ((rd (rd_L5 t406 x13_2) x13_2) < 0)) t406 (wrap64 (x13_2 + 1))) else (none)) else (none)) else (none)) = some (r1,r2):=by rw [if_neg (show ¬ (false = true) by decide)] at H;exact H
             clear H
             have H:=H1
             clear H1
             by_cases c65 : 0 ≤ x13_2
             ·rw [if_pos c65] at H
              have c65b0 : decide (0 ≤ x13_2) = true:=decide_eq_true c65
              clear c65
              by_cases c66 : x13_2 < (t406.length : Int)
              ·rw [if_pos c66] at H
               have c66b0 : decide (x13_2 < (t406.length : Int)) = true:=decide_eq_true c66
               clear c66
               by_cases c67 : x13_2 < ((rd_L5 t406 x13_2).length : Int)
               ·rw [if_pos c67] at H
                have c67b0 : decide (x13_2 < ((rd_L5 t406 x13_2).length : Int)) = true:=decide_eq_true c67
                clear c67
                have H':=Aside0.mk H
                clear H
                have p412 : 0 ≤ (x13_2 : Int):=of_decide_eq_true (by first|(with_reducible assumption)|assumption)
                have q412 : x13_2 < (t406.length : Int):=of_decide_eq_true (by first|(with_reducible assumption)|assumption)
                obtain ⟨ad412,A412_0,c412_0,e412,hx412_0,hl412_0,hi412_0⟩:=at_L5 (Kd.N_reads' HO_12.out).2.2 x13_2 p412 q412
                cases e412
                obtain ⟨ce412,hce412,hMe412,hcc412⟩:=Kd.N_get HO_12.out [] x13_2 p412 (by first|exact q412|exact of_decide_eq_true (by first|(with_reducible assumption)|assumption)|(have e_:=(Kd.N_reads' HO_12.out).1;omega))
                obtain ⟨ua412_0,uc412_0,rfl,ul412_0,ge412_0⟩:=Kd.FK_slice_open hMe412
                have hv412_0:=hcc412 0 _ rfl
                rw [Nat.add_zero,show ((Kd.slice 3 (Kd.int .i64))).sz = 1 from rfl,Nat.mul_one] at hv412_0
                replace hv412_0:=Option.some.inj (hv412_0.symm.trans hx412_0)
                injection hv412_0 with hva_ hvn_ hvc_
                rw [hva_] at ge412_0
                rw [hvc_] at ul412_0
                have HL412_0:=Aside0.mk (show Kd.V (Kd.int .i64) 3 _ w.heap.size _ _ (rd_L5 t406 x13_2) from Kd.V_mk ul412_0 ge412_0)
                clear hva_ hvn_ hvc_ ge412_0 ul412_0
                clear hcc412 hce412
                have HR412_0:=Aside0.mk hi412_0
                have HC412_0:=Aside0.mk hl412_0
                clear hi412_0 hl412_0
                replace p412:=eq_true p412
                replace q412:=eq_true q412
                have p413 : 0 ≤ (x13_2 : Int):=of_decide_eq_true (by first|(with_reducible assumption)|assumption)
                have q413 : x13_2 < ((rd_L5 t406 x13_2).length : Int):=of_decide_eq_true (by first|(with_reducible assumption)|assumption)
                obtain ⟨ad413,e413,hx413_0⟩:=Kd.at_int (by repeat (first|(with_reducible exact HR412_0.out)|(with_reducible refine Kd.C_alloc ?_ _)|(with_reducible refine Kd.C_drewN ?_ _)|(with_reducible refine Kd.C_drew ?_)|exact HR412_0.out)) x13_2 p413 q413
                cases e413
                replace p413:=eq_true p413
                replace q413:=eq_true q413
                go_wp2
                go_roundg k2
                case measure=>have:=HK1.out;have:=HK2.out;omega
                case rel=>exact ⟨(decide ((rd (rd_L5 t406 x13_2) x13_2) < 0)),(wrap64 (x13_2 + 1)),(by first|rfl|(simp;done)|(simp [*];done)),(by first|rfl|(simp;done)|(simp [*];done)),H',⟨by have:=HK1.out;have:=HK2.out;omega⟩,⟨by (with_reducible repeat (first|apply Kd.R_alloc|apply Kd.R_drewN|apply Kd.R_drew));exact HO_9.out⟩,⟨by (with_reducible repeat (first|apply Kd.N_alloc|apply Kd.N_drewN|apply Kd.N_drew));exact HO_10.out⟩,⟨by (with_reducible repeat (first|apply Kd.N_alloc|apply Kd.N_drewN|apply Kd.N_drew));exact HO_12.out⟩,⟨by repeat (first|(with_reducible first|exact HB.out|apply below_alloc|apply pw_below_drewN|apply below_drew1)|exact HB.out)⟩⟩
               ·rw [if_neg c67] at H
                exact absurd H (by simp)
              ·rw [if_neg c66] at H
               exact absurd H (by simp)
             ·rw [if_neg c65] at H
              exact absurd H (by simp)
           ·rw [if_neg c63] at H
            have c63b0 : decide (x13_2 ≤ a0) = false:=decide_eq_false c63
            clear c63
            have H':=Aside0.mk H
            clear H
            go_wp2
            go_roundg k2
            case measure=>have:=HK1.out;have:=HK2.out;omega
            case rel=>exact ⟨(y409),(x11_2),(by first|rfl|(simp;done)|(simp [*];done)),H',⟨by have:=HK1.out;have:=HK2.out;omega⟩,⟨by (with_reducible repeat (first|apply Kd.R_alloc|apply Kd.R_drewN|apply Kd.R_drew));exact HO_9.out⟩,⟨by (with_reducible repeat (first|apply Kd.N_alloc|apply Kd.N_drewN|apply Kd.N_drew));exact HO_10.out⟩,⟨by repeat (first|(with_reducible first|exact HB.out|apply below_alloc|apply pw_below_drewN|apply below_drew1)|exact HB.out)⟩⟩
        ·rw [if_neg c57] at H
         exact absurd H (by simp)
       ·rw [if_neg c55] at H
        exact absurd H (by simp)
      ·rw [if_neg c54] at H
       exact absurd H (by simp)
 ·rw [if_neg c4] at H
  have c4b0 : (t391 == 0) = false:=beq_eq_false_iff_ne.mpr c4
  have c4b1 : (t391 != 0) = true:=bne_iff_ne.mpr c4
  simp only [Option.some.injEq,Prod.mk.injEq] at H
  obtain ⟨rfl,rfl⟩:=H
  go_enter Try.func23,Try.ntmps23
  go_wp2_with (first|(go_at_call 31;(with_reducible refine (scarfjointref03_Valid.calls k a0 _ _ l1 t391 _ ?side1 ?side2 A3.out).mono ?_);(case side1=>repeat (first|exact HR1.out|(with_reducible refine Kd.C_alloc ?_ _)|(with_reducible refine Kd.C_drewN ?_ _)|(with_reducible refine Kd.C_drew ?_)));(case side2=>exact HC1.out);rintro e w68 ⟨rfl,hb⟩;have n0_:=Aside0.mk (below_step (by repeat (first|(with_reducible first|exact HB.out|apply below_alloc|apply pw_below_drewN|apply below_drew1)|exact HB.out)) hb);clear HB;have HB:=n0_;clear n0_;(try clear hb);(try clear hb2);(try clear hk);(try clear hi)))
  go_ret2
  exact ⟨_,by first|rfl|(simp [errW_none,errW_some] <;> rfl)|(simp [*,errW_none,errW_some] <;> rfl),by first|exact Kd.R_nil _ _ _ _ _|exact Kd.N_nil _ _ _ _ _|exact Kd.V_nil _ _ _ _ _|exact Kd.Q_nil _ _ _ _ _|exact Kd.S_nil _ _ _ _ _,by repeat (first|(with_reducible first|exact HB.out|apply below_alloc|apply pw_below_drewN|apply below_drew1)|exact HB.out)⟩

end Go.Proofs.Yteebkkdbkkibmaa.Pr
