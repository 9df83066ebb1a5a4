/- Functions of this claim and what their calls compute, written by wip/tools/mp.py, a variant of the kit printer. Conditions: each theorem has its own. -/
import Derived.Test.YteebkkdbkkibmaaPr0
import Derived.Test.YteebkkdbkkibmaaPr7
import Derived.Test.YteebkkdbkkibmaaPr12
import Derived.Test.YteebkkdbkkibmaaPr13
import Derived.Test.YteebkkdbkkibmaaPr20
import Derived.Test.YteebkkdbkkibmaaPr21
namespace Go.Proofs.Yteebkkdbkkibmaa.Pr
open Go.RowKit Go.Proofs.YteebkkdbkkibmaaW.PrintWords Go.Proofs.YteebkkdbkkibmaaW.PrintLast Go.Proofs.YteebkkdbkkibmaaW.PrintMore
attribute [local go_sem] max2_int min2_int max_two min_two max_three min_three max_four min_four   -- for this text's walks alone
set_option linter.unusedVariables false
set_option linter.unusedSimpArgs false

/-! ### scarfjointlaw03_DifferenceReduce: function 6 -/
mutual
def scarfjointlaw03_DifferenceReduce.j0 : Nat → Int → List (S26) → Bool → Option (Bool)
 | 0,_,_,_ => none
 | k + 1,x0,x1,x19 => if x19 = true then ((scarfjointlaw03_awake.f k).bind fun t373 => (some t373)) else ((api_Test_14.f x1).bind fun t374 => ((difference_Reduce.f k x0 t374).bind fun bt377 => ((scarfjointref03_Reduce.f k x0 x1).bind fun bt381 => ((scarfjointref03_SameTests.f k bt377.1 bt381.1).bind fun t385 => (if t385 = true then (if bt377.2 = bt381.2 then (scarfjointlaw03_DifferenceReduce.j1 k x0 x1 bt377.1 bt377.2 bt381.1 bt381.2 (bt377.2 != 0)) else (scarfjointlaw03_DifferenceReduce.j1 k x0 x1 bt377.1 bt377.2 bt381.1 bt381.2 true)) else (scarfjointlaw03_DifferenceReduce.j1 k x0 x1 bt377.1 bt377.2 bt381.1 bt381.2 true))))))
def scarfjointlaw03_DifferenceReduce.j1 : Nat → Int → List (S26) → List (S26) → Int → List (S26) → Int → Bool → Option (Bool)
 | 0,_,_,_,_,_,_,_ => none
 | k + 1,x0,x1,x5,x6,x7,x8,x46 => if x46 = true then ((scarfjointref03_SameTests.f k x5 x7).bind fun t386 => (if t386 = true then (some (x6 == x8)) else (some false))) else (scarfjointlaw03_DifferenceReduce.l0 k x0 x5 x1 (x1.length : Int) 0)
def scarfjointlaw03_DifferenceReduce.l0 : Nat → Int → List (S26) → List (S26) → Int → Int → Option (Bool)
 | 0,_,_,_,_,_ => none
 | k + 1,x0,x5,x55,x56,x57 => if x57 < x56 then (if 0 ≤ x57 then (if x57 < (x55.length : Int) then ((difference_Implies.f k x0 x5 ((rd_T26 x55 x57).f0) ((rd_T26 x55 x57).f1.f0) ((rd_T26 x55 x57).f1.f1) ((rd_T26 x55 x57).f2.f0) ((rd_T26 x55 x57).f2.f1)).bind fun bt389 => (if bt389.2 = 0 then (if bt389.1 = true then (scarfjointlaw03_DifferenceReduce.l0 k x0 x5 x55 x56 (wrap64 (x57 + 1))) else (some false)) else (some false))) else (none)) else (none)) else (some true)
end
def scarfjointlaw03_DifferenceReduce.f (k : Nat) (a0 : Int) (l1 : List (S26)) : Option (Bool):=(scarfjointlaw03_awake.f k).bind fun t372=>(if t372 = true then (scarfjointlaw03_DifferenceReduce.j0 k a0 l1 (decide ((l1.length : Int) > 45))) else (scarfjointlaw03_DifferenceReduce.j0 k a0 l1 true))
theorem scarfjointlaw03_DifferenceReduce.mono_l : ∀ k,(∀ y0 y1 y2,LeO (scarfjointlaw03_DifferenceReduce.j0 k y0 y1 y2) (scarfjointlaw03_DifferenceReduce.j0 (k + 1) y0 y1 y2)) ∧ (∀ y0 y1 y2 y3 y4 y5 y6,LeO (scarfjointlaw03_DifferenceReduce.j1 k y0 y1 y2 y3 y4 y5 y6) (scarfjointlaw03_DifferenceReduce.j1 (k + 1) y0 y1 y2 y3 y4 y5 y6)) ∧ (∀ y0 y1 y2 y3 y4,LeO (scarfjointlaw03_DifferenceReduce.l0 k y0 y1 y2 y3 y4) (scarfjointlaw03_DifferenceReduce.l0 (k + 1) y0 y1 y2 y3 y4))
 | 0 => ⟨fun _ _ _ r h => by simp [scarfjointlaw03_DifferenceReduce.j0] at h,fun _ _ _ _ _ _ _ r h => by simp [scarfjointlaw03_DifferenceReduce.j1] at h,fun _ _ _ _ _ r h => by simp [scarfjointlaw03_DifferenceReduce.l0] at h⟩
 | k + 1 => by
  obtain ⟨ih0,ih1,ih2⟩:=scarfjointlaw03_DifferenceReduce.mono_l k
  refine ⟨?_,?_,?_⟩
  ·intro y0 y1 y2
   unfold scarfjointlaw03_DifferenceReduce.j0
   repeat' first
   | (with_reducible exact ih0 _ _ _)
   | (with_reducible exact ih1 _ _ _ _ _ _ _)
   | (with_reducible exact ih2 _ _ _ _ _)
   | (with_reducible exact difference_Implies.mono _ _ _ _ _ _ _ _)
   | (with_reducible exact difference_Reduce.mono _ _ _)
   | (with_reducible exact scarfjointlaw03_awake.mono _)
   | (with_reducible exact scarfjointref03_Reduce.mono _ _ _)
   | (with_reducible exact scarfjointref03_SameTests.mono _ _ _)
   | (with_reducible exact LeO.refl _)
   | (with_reducible exact LeO.none _)
   | (with_reducible refine LeO.ite ?_ ?_)
   | (with_reducible refine LeO.bind ?_ (fun _ => ?_))
   | exact ih0 _ _ _
   | exact ih1 _ _ _ _ _ _ _
   | exact ih2 _ _ _ _ _
   | exact difference_Implies.mono _ _ _ _ _ _ _ _
   | exact difference_Reduce.mono _ _ _
   | exact scarfjointlaw03_awake.mono _
   | exact scarfjointref03_Reduce.mono _ _ _
   | exact scarfjointref03_SameTests.mono _ _ _
   | exact LeO.none _
   | refine LeO.ite ?_ ?_
   | refine LeO.bind ?_ (fun _ => ?_)
  ·intro y0 y1 y2 y3 y4 y5 y6
   unfold scarfjointlaw03_DifferenceReduce.j1
   repeat' first
   | (with_reducible exact ih0 _ _ _)
   | (with_reducible exact ih1 _ _ _ _ _ _ _)
   | (with_reducible exact ih2 _ _ _ _ _)
   | (with_reducible exact difference_Implies.mono _ _ _ _ _ _ _ _)
   | (with_reducible exact difference_Reduce.mono _ _ _)
   | (with_reducible exact scarfjointlaw03_awake.mono _)
   | (with_reducible exact scarfjointref03_Reduce.mono _ _ _)
   | (with_reducible exact scarfjointref03_SameTests.mono _ _ _)
   | (with_reducible exact LeO.refl _)
   | (with_reducible exact LeO.none _)
   | (with_reducible refine LeO.ite ?_ ?_)
   | (with_reducible refine LeO.bind ?_ (fun _ => ?_))
   | exact ih0 _ _ _
   | exact ih1 _ _ _ _ _ _ _
   | exact ih2 _ _ _ _ _
   | exact difference_Implies.mono _ _ _ _ _ _ _ _
   | exact difference_Reduce.mono _ _ _
   | exact scarfjointlaw03_awake.mono _
   | exact scarfjointref03_Reduce.mono _ _ _
   | exact scarfjointref03_SameTests.mono _ _ _
   | exact LeO.none _
   | refine LeO.ite ?_ ?_
   | refine LeO.bind ?_ (fun _ => ?_)
  ·intro y0 y1 y2 y3 y4
   unfold scarfjointlaw03_DifferenceReduce.l0
   repeat' first
   | (with_reducible exact ih0 _ _ _)
   | (with_reducible exact ih1 _ _ _ _ _ _ _)
   | (with_reducible exact ih2 _ _ _ _ _)
   | (with_reducible exact difference_Implies.mono _ _ _ _ _ _ _ _)
   | (with_reducible exact difference_Reduce.mono _ _ _)
   | (with_reducible exact scarfjointlaw03_awake.mono _)
   | (with_reducible exact scarfjointref03_Reduce.mono _ _ _)
   | (with_reducible exact scarfjointref03_SameTests.mono _ _ _)
   | (with_reducible exact LeO.refl _)
   | (with_reducible exact LeO.none _)
   | (with_reducible refine LeO.ite ?_ ?_)
   | (with_reducible refine LeO.bind ?_ (fun _ => ?_))
   | exact ih0 _ _ _
   | exact ih1 _ _ _ _ _ _ _
   | exact ih2 _ _ _ _ _
   | exact difference_Implies.mono _ _ _ _ _ _ _ _
   | exact difference_Reduce.mono _ _ _
   | exact scarfjointlaw03_awake.mono _
   | exact scarfjointref03_Reduce.mono _ _ _
   | exact scarfjointref03_SameTests.mono _ _ _
   | exact LeO.none _
   | refine LeO.ite ?_ ?_
   | refine LeO.bind ?_ (fun _ => ?_)
theorem scarfjointlaw03_DifferenceReduce.mono : ∀ a0 a1 k,LeO (scarfjointlaw03_DifferenceReduce.f k a0 a1) (scarfjointlaw03_DifferenceReduce.f (k + 1) a0 a1):=by
 intro a0 a1 k
 obtain ⟨ih0,ih1,ih2⟩:=scarfjointlaw03_DifferenceReduce.mono_l k
 unfold scarfjointlaw03_DifferenceReduce.f
 repeat' first
   | (with_reducible exact ih0 _ _ _)
   | (with_reducible exact ih1 _ _ _ _ _ _ _)
   | (with_reducible exact ih2 _ _ _ _ _)
   | (with_reducible exact difference_Implies.mono _ _ _ _ _ _ _ _)
   | (with_reducible exact difference_Reduce.mono _ _ _)
   | (with_reducible exact scarfjointlaw03_awake.mono _)
   | (with_reducible exact scarfjointref03_Reduce.mono _ _ _)
   | (with_reducible exact scarfjointref03_SameTests.mono _ _ _)
   | (with_reducible exact LeO.refl _)
   | (with_reducible exact LeO.none _)
   | (with_reducible refine LeO.ite ?_ ?_)
   | (with_reducible refine LeO.bind ?_ (fun _ => ?_))
   | exact ih0 _ _ _
   | exact ih1 _ _ _ _ _ _ _
   | exact ih2 _ _ _ _ _
   | exact difference_Implies.mono _ _ _ _ _ _ _ _
   | exact difference_Reduce.mono _ _ _
   | exact scarfjointlaw03_awake.mono _
   | exact scarfjointref03_Reduce.mono _ _ _
   | exact scarfjointref03_SameTests.mono _ _ _
   | exact LeO.none _
   | refine LeO.ite ?_ ?_
   | refine LeO.bind ?_ (fun _ => ?_)
set_option maxHeartbeats 8000000 in
set_option maxRecDepth 100000 in
theorem scarfjointlaw03_DifferenceReduce.calls (k : Nat) (a0 : Int) (A1 : Option Addr) (c1 : Nat) (l1 : List (S26)) (r : Bool) (w : World) (hr1 : Kd.C k26 w A1 l1.length l1) (hc1 : l1.length ≤ c1) (h : scarfjointlaw03_DifferenceReduce.f k a0 l1 = some r) :
  Calls Try.prog 6 #[.int .i64 a0,.slice A1 l1.length c1] w fun e w'=>e = .returned (.bool r) ∧ Below w.heap.size w w':=by
 have hu26:=Try.underlying26
 have HR1:=Aside0.mk hr1
 have HC1:=Aside0.mk hc1
 clear hr1 hc1
 have HB:=Aside0.mk (Below.refl w.heap.size w)
 have H : ((scarfjointlaw03_awake.f k).bind fun t372=>(if t372 = true then (scarfjointlaw03_DifferenceReduce.j0 k a0 l1 (decide ((l1.length : Int) > 45))) else (scarfjointlaw03_DifferenceReduce.j0 k a0 l1 true))) = some r:=h
 clear h
 have HC3:=Aside0.mk H
 clear H
 go_enter Try.func6,Try.ntmps6
 go_upto_region 1 with (fail)
 go_cut [19] (fun v19 wc=>∃ (kq : Nat) (x19_2 : Bool),v19 = .bool x19_2 ∧ Aside0 (scarfjointlaw03_DifferenceReduce.j0 kq a0 l1 x19_2 = some r) ∧ Aside0 (kq ≤ k) ∧ Aside0 (Below w.heap.size w wc))
 case first =>
  have H:=HC3.out
  clear HC3
  replace H:=Option.bind_eq_some_iff.mp H
  obtain ⟨t372,A40,H⟩:=H
  replace H : (if t372 = true then (scarfjointlaw03_DifferenceReduce.j0 k a0 l1 (decide ((l1.length : Int) > 45))) else (scarfjointlaw03_DifferenceReduce.j0 k a0 l1 true)) = some r:=H
  have A4:=Aside0.mk A40
  clear A40
  by_cases c5 : t372 = true
  ·subst c5
   have H1 : (scarfjointlaw03_DifferenceReduce.j0 k a0 l1 (decide ((l1.length : Int) > 45))) = some r:=by rw [if_pos rfl] at H;exact H
   clear H
   have H:=H1
   clear H1
   have H':=Aside0.mk H
   clear H
   go_wp2_with (first|((with_reducible refine gate_callee (f:=12) rfl ?_);refine goesL_ (some 13) rfl rfl Try.func12 (by kernel_rfl) rfl #[] rfl (by (try simp only [List.map_toArray,List.map_cons,List.map_nil]);first|done|rfl|(simp only [List.length_drop,List.length_take];rfl)) ?_;(with_reducible refine (scarfjointlaw03_awake.calls k  true _ A4.out).mono ?_);rintro e w6 ⟨rfl,hb⟩;refine ⟨_,rfl,?_⟩;have n0_:=Aside0.mk (below_step (by repeat (first|(with_reducible first|exact HB.out|apply below_alloc|apply pw_below_drewN|apply below_drew1)|exact HB.out)) hb);clear HB;have HB:=n0_;clear n0_;(try clear hb);(try clear hb2);(try clear hk);(try clear hi)))
   go_meet
   case rel=>exact ⟨_,(decide ((l1.length : Int) > 45)),(by first|rfl|(simp;done)|(simp [*];done)),H',⟨by first|omega|exact Nat.le_refl _⟩,⟨by repeat (first|(with_reducible first|exact HB.out|apply below_alloc|apply pw_below_drewN|apply below_drew1)|exact HB.out)⟩⟩
  ·replace c5:=Bool.eq_false_iff.mpr c5
   subst c5
   have H1 : (scarfjointlaw03_DifferenceReduce.j0 k a0 l1 true) = some r:=by rw [if_neg (show ¬ (false = true) by decide)] at H;exact H
   clear H
   have H:=H1
   clear H1
   have H':=Aside0.mk H
   clear H
   go_wp2_with (first|((with_reducible refine gate_callee (f:=12) rfl ?_);refine goesL_ (some 13) rfl rfl Try.func12 (by kernel_rfl) rfl #[] rfl (by (try simp only [List.map_toArray,List.map_cons,List.map_nil]);first|done|rfl|(simp only [List.length_drop,List.length_take];rfl)) ?_;(with_reducible refine (scarfjointlaw03_awake.calls k  false _ A4.out).mono ?_);rintro e w7 ⟨rfl,hb⟩;refine ⟨_,rfl,?_⟩;have n0_:=Aside0.mk (below_step (by repeat (first|(with_reducible first|exact HB.out|apply below_alloc|apply pw_below_drewN|apply below_drew1)|exact HB.out)) hb);clear HB;have HB:=n0_;clear n0_;(try clear hb);(try clear hb2);(try clear hk);(try clear hi)))
   go_meet
   case rel=>exact ⟨_,(true),(by first|rfl|(simp;done)|(simp [*];done)),H',⟨by first|omega|exact Nat.le_refl _⟩,⟨by repeat (first|(with_reducible first|exact HB.out|apply below_alloc|apply pw_below_drewN|apply below_drew1)|exact HB.out)⟩⟩
 case rest =>
  clear HC3
  try clear c1
  try clear p2
  try clear c5
  try clear c6
  obtain ⟨kq,x19_2,rfl,HA,HJ2,HB⟩:=hcut
  cases kq with
  | zero => exact absurd HA.out (by simp [scarfjointlaw03_DifferenceReduce.j0])
  | succ kj2 =>
   have H:=HA.out
   clear HA
   simp only [scarfjointlaw03_DifferenceReduce.j0] at H
   by_cases c8 : x19_2 = true
   ·subst c8
    have H1 : ((scarfjointlaw03_awake.f kj2).bind fun t373=>(some t373)) = some r:=by rw [if_pos rfl] at H;exact H
    clear H
    have H:=H1
    clear H1
    replace H:=Option.bind_eq_some_iff.mp H
    obtain ⟨t373,A90,H⟩:=H
    replace H : (some t373) = some r:=H
    have A9:=Aside0.mk A90
    clear A90
    obtain rfl:=Option.some.inj H
    go_wp2_with (first|((with_reducible refine gate_callee (f:=12) rfl ?_);refine goesL_ (some 20) rfl rfl Try.func12 (by kernel_rfl) rfl #[] rfl (by (try simp only [List.map_toArray,List.map_cons,List.map_nil]);first|done|rfl|(simp only [List.length_drop,List.length_take];rfl)) ?_;(with_reducible refine (scarfjointlaw03_awake.calls kj2  t373 _ A9.out).mono ?_);rintro e w10 ⟨rfl,hb⟩;refine ⟨_,rfl,?_⟩;have n0_:=Aside0.mk (below_step (by repeat (first|(with_reducible first|exact HB.out|apply below_alloc|apply pw_below_drewN|apply below_drew1)|exact HB.out)) hb);clear HB;have HB:=n0_;clear n0_;(try clear hb);(try clear hb2);(try clear hk);(try clear hi)))
    go_ret
    exact ⟨by first|rfl|(simp [errW_none,errW_some] <;> rfl)|(simp [*,errW_none,errW_some] <;> rfl),by repeat (first|(with_reducible first|exact HB.out|apply below_alloc|apply pw_below_drewN|apply below_drew1)|exact HB.out)⟩
   ·replace c8:=Bool.eq_false_iff.mpr c8
    subst c8
    have H1 : ((api_Test_14.f l1).bind fun t374=>((difference_Reduce.f kj2 a0 t374).bind fun bt377=>((scarfjointref03_Reduce.f kj2 a0 l1).bind fun bt381=>((scarfjointref03_SameTests.f kj2 bt377.1 bt381.1).bind fun t385=>(if t385 = true then (if bt377.2 = bt381.2 then (scarfjointlaw03_DifferenceReduce.j1 kj2 a0 l1 bt377.1 bt377.2 bt381.1 bt381.2 (bt377.2 != 0)) else (scarfjointlaw03_DifferenceReduce.j1 kj2 a0 l1 bt377.1 bt377.2 bt381.1 bt381.2 true)) else (scarfjointlaw03_DifferenceReduce.j1 kj2 a0 l1 bt377.1 bt377.2 bt381.1 bt381.2 true)))))) = some r:=by rw [if_neg (show ¬ (false = true) by decide)] at H;exact H
    clear H
    have H:=H1
    clear H1
    replace H:=Option.bind_eq_some_iff.mp H
    obtain ⟨t374,A110,H⟩:=H
    replace H : ((difference_Reduce.f kj2 a0 t374).bind fun bt377=>((scarfjointref03_Reduce.f kj2 a0 l1).bind fun bt381=>((scarfjointref03_SameTests.f kj2 bt377.1 bt381.1).bind fun t385=>(if t385 = true then (if bt377.2 = bt381.2 then (scarfjointlaw03_DifferenceReduce.j1 kj2 a0 l1 bt377.1 bt377.2 bt381.1 bt381.2 (bt377.2 != 0)) else (scarfjointlaw03_DifferenceReduce.j1 kj2 a0 l1 bt377.1 bt377.2 bt381.1 bt381.2 true)) else (scarfjointlaw03_DifferenceReduce.j1 kj2 a0 l1 bt377.1 bt377.2 bt381.1 bt381.2 true))))) = some r:=H
    have A11:=Aside0.mk A110
    clear A110
    replace H:=Option.bind_eq_some_iff.mp H
    obtain ⟨⟨t377,t378⟩,A120,H⟩:=H
    replace H : ((scarfjointref03_Reduce.f kj2 a0 l1).bind fun bt381=>((scarfjointref03_SameTests.f kj2 t377 bt381.1).bind fun t385=>(if t385 = true then (if t378 = bt381.2 then (scarfjointlaw03_DifferenceReduce.j1 kj2 a0 l1 t377 t378 bt381.1 bt381.2 (t378 != 0)) else (scarfjointlaw03_DifferenceReduce.j1 kj2 a0 l1 t377 t378 bt381.1 bt381.2 true)) else (scarfjointlaw03_DifferenceReduce.j1 kj2 a0 l1 t377 t378 bt381.1 bt381.2 true)))) = some r:=H
    have A12:=Aside0.mk A120
    clear A120
    replace H:=Option.bind_eq_some_iff.mp H
    obtain ⟨⟨t381,t382⟩,A130,H⟩:=H
    replace H : ((scarfjointref03_SameTests.f kj2 t377 t381).bind fun t385=>(if t385 = true then (if t378 = t382 then (scarfjointlaw03_DifferenceReduce.j1 kj2 a0 l1 t377 t378 t381 t382 (t378 != 0)) else (scarfjointlaw03_DifferenceReduce.j1 kj2 a0 l1 t377 t378 t381 t382 true)) else (scarfjointlaw03_DifferenceReduce.j1 kj2 a0 l1 t377 t378 t381 t382 true))) = some r:=H
    have A13:=Aside0.mk A130
    clear A130
    have HC14:=Aside0.mk H
    clear H
    go_upto_region 5 with (first|((with_reducible refine gate_callee (f:=14) rfl ?_);refine goesL_ (some 24) rfl rfl Try.func14 (by kernel_rfl) rfl #[.slice A1 l1.length c1] rfl (by (try simp only [List.map_toArray,List.map_cons,List.map_nil]);first|done|rfl|(simp only [List.length_drop,List.length_take];rfl)) ?_;(with_reducible refine (api_Test_14.calls _ _ l1 t374 _ ?side1 ?side2 A11.out).mono ?_);(case side1=>repeat (first|exact (Kd.C_below HR1.out HB.out)|(with_reducible refine Kd.C_alloc ?_ _)|(with_reducible refine Kd.C_drewN ?_ _)|(with_reducible refine Kd.C_drew ?_)));(case side2=>exact HC1.out);rintro e w15 ⟨v375,rfl,ho0,hb⟩;refine ⟨_,rfl,?_⟩;have n0_:=Aside0.mk (Kd.R_lower ho0 (below_size (by repeat (first|(with_reducible first|exact HB.out|apply below_alloc|apply pw_below_drewN|apply below_drew1)|exact HB.out))));have n1_:=Aside0.mk (below_step (by repeat (first|(with_reducible first|exact HB.out|apply below_alloc|apply pw_below_drewN|apply below_drew1)|exact HB.out)) hb);clear HB;have HO376:=n0_;have HB:=n1_;clear n0_ n1_;(try clear hb);(try clear hb2);(try clear hk);(try clear hi);(try clear ho0);obtain ⟨Ao16,co16,eo16⟩:=Kd.R_slice HO376.out;subst eo16)|((with_reducible refine gate_callee (f:=20) rfl ?_);refine goesL_ (some 25) rfl rfl Try.func20 (by kernel_rfl) rfl #[.int .i64 a0,.slice Ao16 t374.length co16] rfl (by (try simp only [List.map_toArray,List.map_cons,List.map_nil]);first|done|rfl|(simp only [List.length_drop,List.length_take];rfl)) ?_;(with_reducible refine (difference_Reduce.calls kj2 a0 _ _ t374 t377 t378 _ ?side1 ?side2 A12.out).mono ?_);(case side1=>repeat (first|exact (Kd.R_reads' HO376.out).2.2|(with_reducible refine Kd.C_alloc ?_ _)|(with_reducible refine Kd.C_drewN ?_ _)|(with_reducible refine Kd.C_drew ?_)));(case side2=>exact (Kd.R_reads' HO376.out).2.1);rintro e w17 ⟨v379,rfl,ho0,hb⟩;refine ⟨_,rfl,?_⟩;have n0_:=Aside0.mk (Kd.R_elder' (by (with_reducible repeat (first|apply Kd.R_alloc|apply Kd.R_drewN|apply Kd.R_drew));exact HO376.out) (Kd.R_base ho0) hb);have n1_:=Aside0.mk (Kd.R_lower (Kd.R_new' ho0 (Kd.R_lt (by (with_reducible repeat (first|apply Kd.R_alloc|apply Kd.R_drewN|apply Kd.R_drew));exact HO376.out))) (below_size (by repeat (first|(with_reducible first|exact HB.out|apply below_alloc|apply pw_below_drewN|apply below_drew1)|exact HB.out))));have n2_:=Aside0.mk (below_step (by repeat (first|(with_reducible first|exact HB.out|apply below_alloc|apply pw_below_drewN|apply below_drew1)|exact HB.out)) hb);clear HO376;clear HB;have HO376:=n0_;have HO380:=n1_;have HB:=n2_;clear n0_ n1_ n2_;(try clear hb);(try clear hb2);(try clear hk);(try clear hi);(try clear ho0))|((with_reducible refine gate_callee (f:=21) rfl ?_);refine goesL_ (some 31) rfl rfl Try.func21 (by kernel_rfl) rfl #[.int .i64 a0,.slice A1 l1.length c1] rfl (by (try simp only [List.map_toArray,List.map_cons,List.map_nil]);first|done|rfl|(simp only [List.length_drop,List.length_take];rfl)) ?_;(with_reducible refine (scarfjointref03_Reduce.calls kj2 a0 _ _ l1 t381 t382 _ ?side1 ?side2 A13.out).mono ?_);(case side1=>repeat (first|exact (Kd.C_below HR1.out HB.out)|(with_reducible refine Kd.C_alloc ?_ _)|(with_reducible refine Kd.C_drewN ?_ _)|(with_reducible refine Kd.C_drew ?_)));(case side2=>exact HC1.out);rintro e w18 ⟨v383,rfl,ho0,hb⟩;refine ⟨_,rfl,?_⟩;have n0_:=Aside0.mk (Kd.R_elder' (by (with_reducible repeat (first|apply Kd.R_alloc|apply Kd.R_drewN|apply Kd.R_drew));exact HO376.out) (Kd.R_base ho0) hb);have n1_:=Aside0.mk (Kd.R_elder' (by (with_reducible repeat (first|apply Kd.R_alloc|apply Kd.R_drewN|apply Kd.R_drew));exact HO380.out) (Kd.R_base ho0) hb);have n2_:=Aside0.mk (Kd.R_lower (Kd.R_new' (Kd.R_new' ho0 (Kd.R_lt (by (with_reducible repeat (first|apply Kd.R_alloc|apply Kd.R_drewN|apply Kd.R_drew));exact HO376.out))) (Kd.R_lt (by (with_reducible repeat (first|apply Kd.R_alloc|apply Kd.R_drewN|apply Kd.R_drew));exact HO380.out))) (below_size (by repeat (first|(with_reducible first|exact HB.out|apply below_alloc|apply pw_below_drewN|apply below_drew1)|exact HB.out))));have n3_:=Aside0.mk (below_step (by repeat (first|(with_reducible first|exact HB.out|apply below_alloc|apply pw_below_drewN|apply below_drew1)|exact HB.out)) hb);clear HO376;clear HO380;clear HB;have HO376:=n0_;have HO380:=n1_;have HO384:=n2_;have HB:=n3_;clear n0_ n1_ n2_ n3_;(try clear hb);(try clear hb2);(try clear hk);(try clear hi);(try clear ho0)))
    (try simp only [Act.put,List.setIfInBounds_toArray,List.set_cons_zero,List.set_cons_succ])
    go_cut [46] (fun v46 wc=>∃ (kq : Nat) (x46_13 : Bool),v46 = .bool x46_13 ∧ Aside0 (scarfjointlaw03_DifferenceReduce.j1 kq a0 l1 t377 t378 t381 t382 x46_13 = some r) ∧ Aside0 (kq ≤ kj2) ∧ Aside0 (Kd.R k26 26 wc w.heap.size (fun k_=>some k_ ≠ (v383 : Value).ownBlock) v379 t377) ∧ Aside0 (Kd.R k26 26 wc w.heap.size (fun k_=>some k_ ≠ (v379 : Value).ownBlock) v383 t381) ∧ Aside0 (Below w.heap.size w wc))
    case first =>
     have H:=HC14.out
     clear HC14
     replace H:=Option.bind_eq_some_iff.mp H
     obtain ⟨t385,A190,H⟩:=H
     replace H : (if t385 = true then (if t378 = t382 then (scarfjointlaw03_DifferenceReduce.j1 kj2 a0 l1 t377 t378 t381 t382 (t378 != 0)) else (scarfjointlaw03_DifferenceReduce.j1 kj2 a0 l1 t377 t378 t381 t382 true)) else (scarfjointlaw03_DifferenceReduce.j1 kj2 a0 l1 t377 t378 t381 t382 true)) = some r:=H
     have A19:=Aside0.mk A190
     clear A190
     by_cases c20 : t385 = true
     ·subst c20
      have H1 : (if t378 = t382 then (scarfjointlaw03_DifferenceReduce.j1 kj2 a0 l1 t377 t378 t381 t382 (t378 != 0)) else (scarfjointlaw03_DifferenceReduce.j1 kj2 a0 l1 t377 t378 t381 t382 true)) = some r:=by rw [if_pos rfl] at H;exact H
      clear H
      have H:=H1
      clear H1
      by_cases c21 : t378 = t382
      ·rw [if_pos c21] at H
       have c21b0 : (t378 == t382) = true:=beq_iff_eq.mpr c21
       have c21b1 : (t378 != t382) = false:=bne_eq_false_iff_eq.mpr c21
       clear c21
       (first|rw [c21b0]|(simp only [i64_w,i32_w];rw [c21b0])|skip)
       have H':=Aside0.mk H
       clear H
       obtain ⟨Ao22,co22,eo22⟩:=Kd.R_slice HO380.out
       subst eo22
       obtain ⟨Ao23,co23,eo23⟩:=Kd.R_slice HO384.out
       subst eo23
       go_wp2_with (first|((with_reducible refine gate_callee (f:=22) rfl ?_);refine goesL_ (some 36) rfl rfl Try.func22 (by kernel_rfl) rfl #[.slice Ao22 t377.length co22,.slice Ao23 t381.length co23] rfl (by (try simp only [List.map_toArray,List.map_cons,List.map_nil]);first|done|rfl|(simp only [List.length_drop,List.length_take];rfl)) ?_;(with_reducible refine (scarfjointref03_SameTests.calls kj2 _ _ t377 _ _ t381 true _ ?side1 ?side2 ?side3 ?side4 A19.out).mono ?_);(case side1=>repeat (first|exact (Kd.R_reads' HO380.out).2.2|(with_reducible refine Kd.C_alloc ?_ _)|(with_reducible refine Kd.C_drewN ?_ _)|(with_reducible refine Kd.C_drew ?_)));(case side2=>exact (Kd.R_reads' HO380.out).2.1);(case side3=>repeat (first|exact (Kd.R_reads' HO384.out).2.2|(with_reducible refine Kd.C_alloc ?_ _)|(with_reducible refine Kd.C_drewN ?_ _)|(with_reducible refine Kd.C_drew ?_)));(case side4=>exact (Kd.R_reads' HO384.out).2.1);rintro e w' ⟨rfl,⟨nd,rfl⟩⟩;refine ⟨_,rfl,?_⟩))
       go_meet
       case rel=>exact ⟨_,((t378 != 0)),(by first|rfl|(simp;done)|(simp [*];done)),H',⟨by have:=HJ2.out;first|omega|exact Nat.le_refl _⟩,⟨by (with_reducible repeat (first|apply Kd.R_alloc|apply Kd.R_drewN|apply Kd.R_drew));exact Kd.R_mono HO380.out (fun _ hk=>hk.2)⟩,⟨by (with_reducible repeat (first|apply Kd.R_alloc|apply Kd.R_drewN|apply Kd.R_drew));exact Kd.R_mono HO384.out (fun _ hk=>hk.2)⟩,⟨by repeat (first|(with_reducible first|exact HB.out|apply below_alloc|apply pw_below_drewN|apply below_drew1)|exact HB.out)⟩⟩
      ·rw [if_neg c21] at H
       have c21b0 : (t378 == t382) = false:=beq_eq_false_iff_ne.mpr c21
       have c21b1 : (t378 != t382) = true:=bne_iff_ne.mpr c21
       (first|rw [c21b0]|(simp only [i64_w,i32_w];rw [c21b0])|skip)
       have H':=Aside0.mk H
       clear H
       obtain ⟨Ao24,co24,eo24⟩:=Kd.R_slice HO380.out
       subst eo24
       obtain ⟨Ao25,co25,eo25⟩:=Kd.R_slice HO384.out
       subst eo25
       go_wp2_with (first|((with_reducible refine gate_callee (f:=22) rfl ?_);refine goesL_ (some 36) rfl rfl Try.func22 (by kernel_rfl) rfl #[.slice Ao24 t377.length co24,.slice Ao25 t381.length co25] rfl (by (try simp only [List.map_toArray,List.map_cons,List.map_nil]);first|done|rfl|(simp only [List.length_drop,List.length_take];rfl)) ?_;(with_reducible refine (scarfjointref03_SameTests.calls kj2 _ _ t377 _ _ t381 true _ ?side1 ?side2 ?side3 ?side4 A19.out).mono ?_);(case side1=>repeat (first|exact (Kd.R_reads' HO380.out).2.2|(with_reducible refine Kd.C_alloc ?_ _)|(with_reducible refine Kd.C_drewN ?_ _)|(with_reducible refine Kd.C_drew ?_)));(case side2=>exact (Kd.R_reads' HO380.out).2.1);(case side3=>repeat (first|exact (Kd.R_reads' HO384.out).2.2|(with_reducible refine Kd.C_alloc ?_ _)|(with_reducible refine Kd.C_drewN ?_ _)|(with_reducible refine Kd.C_drew ?_)));(case side4=>exact (Kd.R_reads' HO384.out).2.1);rintro e w' ⟨rfl,⟨nd,rfl⟩⟩;refine ⟨_,rfl,?_⟩))
       go_meet
       case rel=>exact ⟨_,(true),(by first|rfl|(simp;done)|(simp [*];done)),H',⟨by have:=HJ2.out;first|omega|exact Nat.le_refl _⟩,⟨by (with_reducible repeat (first|apply Kd.R_alloc|apply Kd.R_drewN|apply Kd.R_drew));exact Kd.R_mono HO380.out (fun _ hk=>hk.2)⟩,⟨by (with_reducible repeat (first|apply Kd.R_alloc|apply Kd.R_drewN|apply Kd.R_drew));exact Kd.R_mono HO384.out (fun _ hk=>hk.2)⟩,⟨by repeat (first|(with_reducible first|exact HB.out|apply below_alloc|apply pw_below_drewN|apply below_drew1)|exact HB.out)⟩⟩
     ·replace c20:=Bool.eq_false_iff.mpr c20
      subst c20
      have H1 : (scarfjointlaw03_DifferenceReduce.j1 kj2 a0 l1 t377 t378 t381 t382 true) = some r:=by rw [if_neg (show ¬ (false = true) by decide)] at H;exact H
      clear H
      have H:=H1
      clear H1
      have H':=Aside0.mk H
      clear H
      obtain ⟨Ao26,co26,eo26⟩:=Kd.R_slice HO380.out
      subst eo26
      obtain ⟨Ao27,co27,eo27⟩:=Kd.R_slice HO384.out
      subst eo27
      go_wp2_with (first|((with_reducible refine gate_callee (f:=22) rfl ?_);refine goesL_ (some 36) rfl rfl Try.func22 (by kernel_rfl) rfl #[.slice Ao26 t377.length co26,.slice Ao27 t381.length co27] rfl (by (try simp only [List.map_toArray,List.map_cons,List.map_nil]);first|done|rfl|(simp only [List.length_drop,List.length_take];rfl)) ?_;(with_reducible refine (scarfjointref03_SameTests.calls kj2 _ _ t377 _ _ t381 false _ ?side1 ?side2 ?side3 ?side4 A19.out).mono ?_);(case side1=>repeat (first|exact (Kd.R_reads' HO380.out).2.2|(with_reducible refine Kd.C_alloc ?_ _)|(with_reducible refine Kd.C_drewN ?_ _)|(with_reducible refine Kd.C_drew ?_)));(case side2=>exact (Kd.R_reads' HO380.out).2.1);(case side3=>repeat (first|exact (Kd.R_reads' HO384.out).2.2|(with_reducible refine Kd.C_alloc ?_ _)|(with_reducible refine Kd.C_drewN ?_ _)|(with_reducible refine Kd.C_drew ?_)));(case side4=>exact (Kd.R_reads' HO384.out).2.1);rintro e w' ⟨rfl,⟨nd,rfl⟩⟩;refine ⟨_,rfl,?_⟩))
      go_meet
      case rel=>exact ⟨_,(true),(by first|rfl|(simp;done)|(simp [*];done)),H',⟨by have:=HJ2.out;first|omega|exact Nat.le_refl _⟩,⟨by (with_reducible repeat (first|apply Kd.R_alloc|apply Kd.R_drewN|apply Kd.R_drew));exact Kd.R_mono HO380.out (fun _ hk=>hk.2)⟩,⟨by (with_reducible repeat (first|apply Kd.R_alloc|apply Kd.R_drewN|apply Kd.R_drew));exact Kd.R_mono HO384.out (fun _ hk=>hk.2)⟩,⟨by repeat (first|(with_reducible first|exact HB.out|apply below_alloc|apply pw_below_drewN|apply below_drew1)|exact HB.out)⟩⟩
    case rest =>
     clear HC14
     try clear c1
     try clear c2
     try clear p2
     try clear c5
     try clear c6
     try clear c8
     try clear c12
     try clear c14
     try clear c20
     try clear c21
     try clear c21b0
     try clear c21b1
     try clear c22
     try clear p2
     obtain ⟨kq,x46_13,rfl,HA,HJ13,HO_5,HO_7,HB⟩:=hcut
     cases kq with
     | zero => exact absurd HA.out (by simp [scarfjointlaw03_DifferenceReduce.j1])
     | succ kj13 =>
      have H:=HA.out
      clear HA
      simp only [scarfjointlaw03_DifferenceReduce.j1] at H
      by_cases c28 : x46_13 = true
      ·subst c28
       have H1 : ((scarfjointref03_SameTests.f kj13 t377 t381).bind fun t386=>(if t386 = true then (some (t378 == t382)) else (some false))) = some r:=by rw [if_pos rfl] at H;exact H
       clear H
       have H:=H1
       clear H1
       replace H:=Option.bind_eq_some_iff.mp H
       obtain ⟨t386,A290,H⟩:=H
       replace H : (if t386 = true then (some (t378 == t382)) else (some false)) = some r:=H
       have A29:=Aside0.mk A290
       clear A290
       by_cases c30 : t386 = true
       ·subst c30
        have H1 : (some (t378 == t382)) = some r:=by rw [if_pos rfl] at H;exact H
        clear H
        have H:=H1
        clear H1
        obtain rfl:=Option.some.inj H
        obtain ⟨Ao31,co31,eo31⟩:=Kd.R_slice HO_5.out
        subst eo31
        obtain ⟨Ao32,co32,eo32⟩:=Kd.R_slice HO_7.out
        subst eo32
        go_wp2_with (first|((with_reducible refine gate_callee (f:=22) rfl ?_);refine goesL_ (some 49) rfl rfl Try.func22 (by kernel_rfl) rfl #[.slice Ao31 t377.length co31,.slice Ao32 t381.length co32] rfl (by (try simp only [List.map_toArray,List.map_cons,List.map_nil]);first|done|rfl|(simp only [List.length_drop,List.length_take];rfl)) ?_;(with_reducible refine (scarfjointref03_SameTests.calls kj13 _ _ t377 _ _ t381 true _ ?side1 ?side2 ?side3 ?side4 A29.out).mono ?_);(case side1=>repeat (first|exact (Kd.R_reads' HO_5.out).2.2|(with_reducible refine Kd.C_alloc ?_ _)|(with_reducible refine Kd.C_drewN ?_ _)|(with_reducible refine Kd.C_drew ?_)));(case side2=>exact (Kd.R_reads' HO_5.out).2.1);(case side3=>repeat (first|exact (Kd.R_reads' HO_7.out).2.2|(with_reducible refine Kd.C_alloc ?_ _)|(with_reducible refine Kd.C_drewN ?_ _)|(with_reducible refine Kd.C_drew ?_)));(case side4=>exact (Kd.R_reads' HO_7.out).2.1);rintro e w' ⟨rfl,⟨nd,rfl⟩⟩;refine ⟨_,rfl,?_⟩))
        go_ret
        exact ⟨by first|rfl|(simp [errW_none,errW_some] <;> rfl)|(simp [*,errW_none,errW_some] <;> rfl),by repeat (first|(with_reducible first|exact HB.out|apply below_alloc|apply pw_below_drewN|apply below_drew1)|exact HB.out)⟩
       ·replace c30:=Bool.eq_false_iff.mpr c30
        subst c30
        have H1 : (some false) = some r:=by rw [if_neg (show ¬ (false = true) by decide)] at H;exact H
        clear H
        have H:=H1
        clear H1
        obtain rfl:=Option.some.inj H
        obtain ⟨Ao33,co33,eo33⟩:=Kd.R_slice HO_5.out
        subst eo33
        obtain ⟨Ao34,co34,eo34⟩:=Kd.R_slice HO_7.out
        subst eo34
        go_wp2_with (first|((with_reducible refine gate_callee (f:=22) rfl ?_);refine goesL_ (some 49) rfl rfl Try.func22 (by kernel_rfl) rfl #[.slice Ao33 t377.length co33,.slice Ao34 t381.length co34] rfl (by (try simp only [List.map_toArray,List.map_cons,List.map_nil]);first|done|rfl|(simp only [List.length_drop,List.length_take];rfl)) ?_;(with_reducible refine (scarfjointref03_SameTests.calls kj13 _ _ t377 _ _ t381 false _ ?side1 ?side2 ?side3 ?side4 A29.out).mono ?_);(case side1=>repeat (first|exact (Kd.R_reads' HO_5.out).2.2|(with_reducible refine Kd.C_alloc ?_ _)|(with_reducible refine Kd.C_drewN ?_ _)|(with_reducible refine Kd.C_drew ?_)));(case side2=>exact (Kd.R_reads' HO_5.out).2.1);(case side3=>repeat (first|exact (Kd.R_reads' HO_7.out).2.2|(with_reducible refine Kd.C_alloc ?_ _)|(with_reducible refine Kd.C_drewN ?_ _)|(with_reducible refine Kd.C_drew ?_)));(case side4=>exact (Kd.R_reads' HO_7.out).2.1);rintro e w' ⟨rfl,⟨nd,rfl⟩⟩;refine ⟨_,rfl,?_⟩))
        go_ret
        exact ⟨by first|rfl|(simp [errW_none,errW_some] <;> rfl)|(simp [*,errW_none,errW_some] <;> rfl),by repeat (first|(with_reducible first|exact HB.out|apply below_alloc|apply pw_below_drewN|apply below_drew1)|exact HB.out)⟩
      ·replace c28:=Bool.eq_false_iff.mpr c28
       subst c28
       have H1 : (scarfjointlaw03_DifferenceReduce.l0 kj13 a0 t377 l1 (l1.length : Int) 0) = some r:=by rw [if_neg (show ¬ (false = true) by decide)] at H;exact H
       clear H
       have H:=H1
       clear H1
       have H':=Aside0.mk H
       clear H
       go_wp2
       go_loopg [57] kj13 (fun kq v57 w'=>∃ (x57_3 : Int),v57 = .int .i64 x57_3 ∧ Aside0 (scarfjointlaw03_DifferenceReduce.l0 kq a0 t377 l1 (l1.length : Int) x57_3 = some r) ∧ Aside0 (kq ≤ kj13) ∧ Aside0 (Kd.R k26 26 w' w.heap.size (fun _=>True) v379 t377) ∧ Aside0 (Below w.heap.size w w'))
       case atStart=>exact ⟨(0),(by first|rfl|(simp;done)|(simp [*];done)),H',⟨Nat.le_refl _⟩,⟨by (with_reducible repeat (first|apply Kd.R_alloc|apply Kd.R_drewN|apply Kd.R_drew));exact Kd.R_mono HO_5.out (fun _ hk=>trivial)⟩,⟨by repeat (first|(with_reducible first|exact HB.out|apply below_alloc|apply pw_below_drewN|apply below_drew1)|exact HB.out)⟩⟩
       case round =>
        clear H'
        try clear c1
        try clear c2
        try clear p2
        try clear c3
        try clear c5
        try clear c6
        try clear c8
        try clear c12
        try clear c14
        try clear c20
        try clear c21
        try clear c21b0
        try clear c21b1
        try clear c22
        try clear c28
        try clear c30
        try clear p2
        obtain ⟨x57_3,rfl,HA,HK3,HO_5,HB⟩:=hrel
        cases gk with
        | zero => exact absurd HA.out (by simp [scarfjointlaw03_DifferenceReduce.l0])
        | succ k3 =>
         have H:=HA.out
         clear HA
         simp only [scarfjointlaw03_DifferenceReduce.l0] at H
         by_cases c35 : x57_3 < (l1.length : Int)
         ·rw [if_pos c35] at H
          have c35b0 : decide (x57_3 < (l1.length : Int)) = true:=decide_eq_true c35
          clear c35
          by_cases c36 : 0 ≤ x57_3
          ·rw [if_pos c36] at H
           have c36b0 : decide (0 ≤ x57_3) = true:=decide_eq_true c36
           clear c36
           by_cases c37 : x57_3 < (l1.length : Int)
           ·rw [if_pos c37] at H
            have c37b0 : decide (x57_3 < (l1.length : Int)) = true:=decide_eq_true c37
            clear c37
            replace H:=Option.bind_eq_some_iff.mp H
            obtain ⟨⟨t389,t390⟩,A380,H⟩:=H
            replace H : (if t390 = 0 then (if t389 = true then (scarfjointlaw03_DifferenceReduce.l0 k3 a0 t377 l1 (l1.length : Int) (wrap64 (x57_3 + 1))) else (some false)) else (some false)) = some r:=H
            have A38:=Aside0.mk A380
            clear A380
            by_cases c39 : t390 = 0
            ·rw [if_pos c39] at H
             have c39b0 : (t390 == 0) = true:=beq_iff_eq.mpr c39
             have c39b1 : (t390 != 0) = false:=bne_eq_false_iff_eq.mpr c39
             clear c39
             by_cases c40 : t389 = true
             ·subst c40
              have H1 : (scarfjointlaw03_DifferenceReduce.l0 k3 a0 t377 l1 (l1.length : Int) (wrap64 (x57_3 + 1))) = some r:=by rw [if_pos rfl] at H;exact H
              clear H
              have H:=H1
              clear H1
              have H':=Aside0.mk H
              clear H
              have p387 : 0 ≤ (x57_3 : Int):=of_decide_eq_true (by first|(with_reducible assumption)|assumption)
              have q387 : x57_3 < (l1.length : Int):=of_decide_eq_true (by first|(with_reducible assumption)|assumption)
              obtain ⟨ad387,e387,hx387_0,hx387_1,hx387_2,hx387_3,hx387_4⟩:=at_T26 HR1.out x57_3 p387 q387
              cases e387
              replace hx387_0:=(HB.out.cell (World.block_lt_of_cell? w _ hx387_0)).trans hx387_0
              replace hx387_1:=(HB.out.cell (World.block_lt_of_cell? w _ hx387_1)).trans hx387_1
              replace hx387_2:=(HB.out.cell (World.block_lt_of_cell? w _ hx387_2)).trans hx387_2
              replace hx387_3:=(HB.out.cell (World.block_lt_of_cell? w _ hx387_3)).trans hx387_3
              replace hx387_4:=(HB.out.cell (World.block_lt_of_cell? w _ hx387_4)).trans hx387_4
              replace p387:=eq_true p387
              replace q387:=eq_true q387
              go_wp2_with (first|((with_reducible refine gate_dst (N:=10) rfl ?_);(try (refine gate_guard (by rfl) ?_;dsimp only));refine box_event ?hg (N:=10) ?hd (cs:=#[.int .i64 0,.int .i64 0,.int .i64 0,.int .i64 0,.int .i64 0]) (t:=26) ?hr ?_;(case hd=>rfl);(case hg=>rfl);(case hr=>first|(go_simp;done)|(go_simp;rfl));intro gb388 hg w41 hbox hb;have n0_:=Aside0.mk (Kd.R_below (Kd.R_elderB (by (with_reducible repeat (first|apply Kd.R_alloc|apply Kd.R_drewN|apply Kd.R_drew));exact HO_5.out) gb388 (Nat.le_of_eq hg.symm)) hb);have n1_:=Aside0.mk (below_step (by repeat (first|(with_reducible first|exact HB.out|apply below_alloc|apply pw_below_drewN|apply below_drew1)|exact HB.out)) hb);have n2_:=Aside0.mk (hbox);have n3_:=Aside0.mk ((by rw [hg];exact (below_size (by repeat (first|(with_reducible first|exact HB.out|apply below_alloc|apply pw_below_drewN|apply below_drew1)|exact HB.out))) : w.heap.size ≤ gb388));have n4_:=Aside0.mk ((by rw [hg];exact (below_size (by repeat (first|(with_reducible first|exact HB.out|apply below_alloc|apply pw_below_drewN|apply below_drew1)|exact HB.out))) : w.heap.size ≤ gb388));clear HO_5;clear HB;have HO_5:=n0_;have HB:=n1_;have BK388:=n2_;have GW388:=n3_;have GE388:=n4_;clear n0_ n1_ n2_ n3_ n4_;clear hb hbox hg;have hcz42_0 : w41.cell? ⟨gb388,0,none⟩ = some (.int .i64 0):=(blk_cell BK388.out 0).trans rfl;have hcz42_1 : w41.cell? ⟨gb388,1,none⟩ = some (.int .i64 0):=(blk_cell BK388.out 1).trans rfl;have hcz42_2 : w41.cell? ⟨gb388,2,none⟩ = some (.int .i64 0):=(blk_cell BK388.out 2).trans rfl;have hcz42_3 : w41.cell? ⟨gb388,3,none⟩ = some (.int .i64 0):=(blk_cell BK388.out 3).trans rfl;have hcz42_4 : w41.cell? ⟨gb388,4,none⟩ = some (.int .i64 0):=(blk_cell BK388.out 4).trans rfl;have hfz42_0:=blk_frozen BK388.out 0;have hfz42_1:=blk_frozen BK388.out 1;have hfz42_2:=blk_frozen BK388.out 2;have hfz42_3:=blk_frozen BK388.out 3;have hfz42_4:=blk_frozen BK388.out 4;obtain ⟨Ao43,co43,eo43⟩:=Kd.R_slice HO_5.out;subst eo43)|((with_reducible refine gate_callee (f:=13) rfl ?_);refine goesL_ (some 65) rfl rfl Try.func13 (by kernel_rfl) rfl #[.int .i64 a0,.slice Ao43 t377.length co43,.agg #[.int .i64 ((rd_T26 l1 x57_3).f0),.int .i64 ((rd_T26 l1 x57_3).f1.f0),.int .i64 ((rd_T26 l1 x57_3).f1.f1),.int .i64 ((rd_T26 l1 x57_3).f2.f0),.int .i64 ((rd_T26 l1 x57_3).f2.f1)]] rfl (by (try simp only [List.map_toArray,List.map_cons,List.map_nil]);first|done|rfl|(simp only [List.length_drop,List.length_take];rfl)) ?_;(with_reducible refine (difference_Implies.calls k3 a0 _ _ t377 ((rd_T26 l1 x57_3).f0) ((rd_T26 l1 x57_3).f1.f0) ((rd_T26 l1 x57_3).f1.f1) ((rd_T26 l1 x57_3).f2.f0) ((rd_T26 l1 x57_3).f2.f1) true t390 _ ?side1 ?side2 A38.out).mono ?_);(case side1=>refine (Kd.R_reads' (e:=26) (base:=w.heap.size) (ok:=fun k_=>(True ∧ k_ ≠ gb388)) (n:=t377.length) (c:=co43) ?_).2.2;exact (by (with_reducible repeat (first|apply Kd.R_alloc|apply Kd.R_drewN|apply Kd.R_drew));exact (Kd.R_mono (Kd.R_far (p:=⟨gb388,4,none⟩) (Kd.R_far (p:=⟨gb388,3,none⟩) (Kd.R_far (p:=⟨gb388,2,none⟩) (Kd.R_far (p:=⟨gb388,1,none⟩) (Kd.R_far (p:=⟨gb388,0,none⟩) (Kd.R_mono HO_5.out (fun k_ hk=>(⟨hk,hk.2⟩ : _ ∧ k_ ≠ gb388))) (fun _ hk=>hk.2) (.int .i64 ((rd_T26 l1 x57_3).f0))) (fun _ hk=>hk.2) (.int .i64 ((rd_T26 l1 x57_3).f1.f0))) (fun _ hk=>hk.2) (.int .i64 ((rd_T26 l1 x57_3).f1.f1))) (fun _ hk=>hk.2) (.int .i64 ((rd_T26 l1 x57_3).f2.f0))) (fun _ hk=>hk.2) (.int .i64 ((rd_T26 l1 x57_3).f2.f1))) (fun _ h_=>h_.1))));(case side2=>exact (Kd.R_reads' HO_5.out).2.1);rintro e w44 ⟨rfl,hb⟩;refine ⟨_,rfl,?_⟩;have n0_:=Aside0.mk (Kd.R_below (by (with_reducible repeat (first|apply Kd.R_alloc|apply Kd.R_drewN|apply Kd.R_drew));exact (Kd.R_mono (Kd.R_far (p:=⟨gb388,4,none⟩) (Kd.R_far (p:=⟨gb388,3,none⟩) (Kd.R_far (p:=⟨gb388,2,none⟩) (Kd.R_far (p:=⟨gb388,1,none⟩) (Kd.R_far (p:=⟨gb388,0,none⟩) (Kd.R_mono HO_5.out (fun k_ hk=>(⟨hk,hk.2⟩ : _ ∧ k_ ≠ gb388))) (fun _ hk=>hk.2) (.int .i64 ((rd_T26 l1 x57_3).f0))) (fun _ hk=>hk.2) (.int .i64 ((rd_T26 l1 x57_3).f1.f0))) (fun _ hk=>hk.2) (.int .i64 ((rd_T26 l1 x57_3).f1.f1))) (fun _ hk=>hk.2) (.int .i64 ((rd_T26 l1 x57_3).f2.f0))) (fun _ hk=>hk.2) (.int .i64 ((rd_T26 l1 x57_3).f2.f1))) (fun _ h_=>h_.1))) hb);have n1_:=Aside0.mk (blk_below (g:=gb388) (o:=.cells #[.int .i64 ((rd_T26 l1 x57_3).f0),.int .i64 ((rd_T26 l1 x57_3).f1.f0),.int .i64 ((rd_T26 l1 x57_3).f1.f1),.int .i64 ((rd_T26 l1 x57_3).f2.f0),.int .i64 ((rd_T26 l1 x57_3).f2.f1)] 26 (0,0)) (by (with_reducible repeat (first|refine blk_drewN ?_ _|refine blk_drew ?_|refine blk_alloc ?_ _));refine blk_put (cs:=#[.int .i64 ((rd_T26 l1 x57_3).f0),.int .i64 ((rd_T26 l1 x57_3).f1.f0),.int .i64 ((rd_T26 l1 x57_3).f1.f1),.int .i64 ((rd_T26 l1 x57_3).f2.f0),.int .i64 0]) ?_ 4 _ rfl;(with_reducible repeat (first|refine blk_drewN ?_ _|refine blk_drew ?_|refine blk_alloc ?_ _));refine blk_put (cs:=#[.int .i64 ((rd_T26 l1 x57_3).f0),.int .i64 ((rd_T26 l1 x57_3).f1.f0),.int .i64 ((rd_T26 l1 x57_3).f1.f1),.int .i64 0,.int .i64 0]) ?_ 3 _ rfl;(with_reducible repeat (first|refine blk_drewN ?_ _|refine blk_drew ?_|refine blk_alloc ?_ _));refine blk_put (cs:=#[.int .i64 ((rd_T26 l1 x57_3).f0),.int .i64 ((rd_T26 l1 x57_3).f1.f0),.int .i64 0,.int .i64 0,.int .i64 0]) ?_ 2 _ rfl;(with_reducible repeat (first|refine blk_drewN ?_ _|refine blk_drew ?_|refine blk_alloc ?_ _));refine blk_put (cs:=#[.int .i64 ((rd_T26 l1 x57_3).f0),.int .i64 0,.int .i64 0,.int .i64 0,.int .i64 0]) ?_ 1 _ rfl;(with_reducible repeat (first|refine blk_drewN ?_ _|refine blk_drew ?_|refine blk_alloc ?_ _));refine blk_put (cs:=#[.int .i64 0,.int .i64 0,.int .i64 0,.int .i64 0,.int .i64 0]) ?_ 0 _ rfl;(with_reducible repeat (first|refine blk_drewN ?_ _|refine blk_drew ?_|refine blk_alloc ?_ _));exact BK388.out) hb);have n2_:=Aside0.mk (below_step (by repeat (first|(with_reducible first|exact HB.out|apply below_alloc|apply pw_below_drewN|apply below_drew1|refine below_set ?_ GE388.out)|exact HB.out)) hb);clear HO_5;clear BK388;clear HB;have HO_5:=n0_;have BK388:=n1_;have HB:=n2_;clear n0_ n1_ n2_;(try clear hb);(try clear hb2);(try clear hk);(try clear hi)))
              go_roundg k3
              case measure=>have:=HJ2.out;have:=HJ13.out;have:=HK3.out;omega
              case rel=>exact ⟨(wrap64 (x57_3 + 1)),(by first|rfl|(simp;done)|(simp [*];done)),H',⟨by have:=HJ2.out;have:=HJ13.out;have:=HK3.out;omega⟩,⟨by (with_reducible repeat (first|apply Kd.R_alloc|apply Kd.R_drewN|apply Kd.R_drew));exact Kd.R_mono HO_5.out (fun _ hk=>trivial)⟩,⟨by repeat (first|(with_reducible first|exact HB.out|apply below_alloc|apply pw_below_drewN|apply below_drew1|refine below_set ?_ GE388.out)|exact HB.out)⟩⟩
             ·replace c40:=Bool.eq_false_iff.mpr c40
              subst c40
              have H1 : (some false) = some r:=by rw [if_neg (show ¬ (false = true) by decide)] at H;exact H
              clear H
              have H:=H1
              clear H1
              obtain rfl:=Option.some.inj H
              have p387 : 0 ≤ (x57_3 : Int):=of_decide_eq_true (by first|(with_reducible assumption)|assumption)
              have q387 : x57_3 < (l1.length : Int):=of_decide_eq_true (by first|(with_reducible assumption)|assumption)
              obtain ⟨ad387,e387,hx387_0,hx387_1,hx387_2,hx387_3,hx387_4⟩:=at_T26 HR1.out x57_3 p387 q387
              cases e387
              replace hx387_0:=(HB.out.cell (World.block_lt_of_cell? w _ hx387_0)).trans hx387_0
              replace hx387_1:=(HB.out.cell (World.block_lt_of_cell? w _ hx387_1)).trans hx387_1
              replace hx387_2:=(HB.out.cell (World.block_lt_of_cell? w _ hx387_2)).trans hx387_2
              replace hx387_3:=(HB.out.cell (World.block_lt_of_cell? w _ hx387_3)).trans hx387_3
              replace hx387_4:=(HB.out.cell (World.block_lt_of_cell? w _ hx387_4)).trans hx387_4
              replace p387:=eq_true p387
              replace q387:=eq_true q387
              go_wp2_with (first|((with_reducible refine gate_dst (N:=10) rfl ?_);(try (refine gate_guard (by rfl) ?_;dsimp only));refine box_event ?hg (N:=10) ?hd (cs:=#[.int .i64 0,.int .i64 0,.int .i64 0,.int .i64 0,.int .i64 0]) (t:=26) ?hr ?_;(case hd=>rfl);(case hg=>rfl);(case hr=>first|(go_simp;done)|(go_simp;rfl));intro gb388 hg w45 hbox hb;have n0_:=Aside0.mk (Kd.R_below (Kd.R_elderB (by (with_reducible repeat (first|apply Kd.R_alloc|apply Kd.R_drewN|apply Kd.R_drew));exact HO_5.out) gb388 (Nat.le_of_eq hg.symm)) hb);have n1_:=Aside0.mk (below_step (by repeat (first|(with_reducible first|exact HB.out|apply below_alloc|apply pw_below_drewN|apply below_drew1)|exact HB.out)) hb);have n2_:=Aside0.mk (hbox);have n3_:=Aside0.mk ((by rw [hg];exact (below_size (by repeat (first|(with_reducible first|exact HB.out|apply below_alloc|apply pw_below_drewN|apply below_drew1)|exact HB.out))) : w.heap.size ≤ gb388));have n4_:=Aside0.mk ((by rw [hg];exact (below_size (by repeat (first|(with_reducible first|exact HB.out|apply below_alloc|apply pw_below_drewN|apply below_drew1)|exact HB.out))) : w.heap.size ≤ gb388));clear HO_5;clear HB;have HO_5:=n0_;have HB:=n1_;have BK388:=n2_;have GW388:=n3_;have GE388:=n4_;clear n0_ n1_ n2_ n3_ n4_;clear hb hbox hg;have hcz46_0 : w45.cell? ⟨gb388,0,none⟩ = some (.int .i64 0):=(blk_cell BK388.out 0).trans rfl;have hcz46_1 : w45.cell? ⟨gb388,1,none⟩ = some (.int .i64 0):=(blk_cell BK388.out 1).trans rfl;have hcz46_2 : w45.cell? ⟨gb388,2,none⟩ = some (.int .i64 0):=(blk_cell BK388.out 2).trans rfl;have hcz46_3 : w45.cell? ⟨gb388,3,none⟩ = some (.int .i64 0):=(blk_cell BK388.out 3).trans rfl;have hcz46_4 : w45.cell? ⟨gb388,4,none⟩ = some (.int .i64 0):=(blk_cell BK388.out 4).trans rfl;have hfz46_0:=blk_frozen BK388.out 0;have hfz46_1:=blk_frozen BK388.out 1;have hfz46_2:=blk_frozen BK388.out 2;have hfz46_3:=blk_frozen BK388.out 3;have hfz46_4:=blk_frozen BK388.out 4;obtain ⟨Ao47,co47,eo47⟩:=Kd.R_slice HO_5.out;subst eo47)|((with_reducible refine gate_callee (f:=13) rfl ?_);refine goesL_ (some 65) rfl rfl Try.func13 (by kernel_rfl) rfl #[.int .i64 a0,.slice Ao47 t377.length co47,.agg #[.int .i64 ((rd_T26 l1 x57_3).f0),.int .i64 ((rd_T26 l1 x57_3).f1.f0),.int .i64 ((rd_T26 l1 x57_3).f1.f1),.int .i64 ((rd_T26 l1 x57_3).f2.f0),.int .i64 ((rd_T26 l1 x57_3).f2.f1)]] rfl (by (try simp only [List.map_toArray,List.map_cons,List.map_nil]);first|done|rfl|(simp only [List.length_drop,List.length_take];rfl)) ?_;(with_reducible refine (difference_Implies.calls k3 a0 _ _ t377 ((rd_T26 l1 x57_3).f0) ((rd_T26 l1 x57_3).f1.f0) ((rd_T26 l1 x57_3).f1.f1) ((rd_T26 l1 x57_3).f2.f0) ((rd_T26 l1 x57_3).f2.f1) false t390 _ ?side1 ?side2 A38.out).mono ?_);(case side1=>refine (Kd.R_reads' (e:=26) (base:=w.heap.size) (ok:=fun k_=>(True ∧ k_ ≠ gb388)) (n:=t377.length) (c:=co47) ?_).2.2;exact (by (with_reducible repeat (first|apply Kd.R_alloc|apply Kd.R_drewN|apply Kd.R_drew));exact (Kd.R_mono (Kd.R_far (p:=⟨gb388,4,none⟩) (Kd.R_far (p:=⟨gb388,3,none⟩) (Kd.R_far (p:=⟨gb388,2,none⟩) (Kd.R_far (p:=⟨gb388,1,none⟩) (Kd.R_far (p:=⟨gb388,0,none⟩) (Kd.R_mono HO_5.out (fun k_ hk=>(⟨hk,hk.2⟩ : _ ∧ k_ ≠ gb388))) (fun _ hk=>hk.2) (.int .i64 ((rd_T26 l1 x57_3).f0))) (fun _ hk=>hk.2) (.int .i64 ((rd_T26 l1 x57_3).f1.f0))) (fun _ hk=>hk.2) (.int .i64 ((rd_T26 l1 x57_3).f1.f1))) (fun _ hk=>hk.2) (.int .i64 ((rd_T26 l1 x57_3).f2.f0))) (fun _ hk=>hk.2) (.int .i64 ((rd_T26 l1 x57_3).f2.f1))) (fun _ h_=>h_.1))));(case side2=>exact (Kd.R_reads' HO_5.out).2.1);rintro e w48 ⟨rfl,hb⟩;refine ⟨_,rfl,?_⟩;have n0_:=Aside0.mk (Kd.R_below (by (with_reducible repeat (first|apply Kd.R_alloc|apply Kd.R_drewN|apply Kd.R_drew));exact (Kd.R_mono (Kd.R_far (p:=⟨gb388,4,none⟩) (Kd.R_far (p:=⟨gb388,3,none⟩) (Kd.R_far (p:=⟨gb388,2,none⟩) (Kd.R_far (p:=⟨gb388,1,none⟩) (Kd.R_far (p:=⟨gb388,0,none⟩) (Kd.R_mono HO_5.out (fun k_ hk=>(⟨hk,hk.2⟩ : _ ∧ k_ ≠ gb388))) (fun _ hk=>hk.2) (.int .i64 ((rd_T26 l1 x57_3).f0))) (fun _ hk=>hk.2) (.int .i64 ((rd_T26 l1 x57_3).f1.f0))) (fun _ hk=>hk.2) (.int .i64 ((rd_T26 l1 x57_3).f1.f1))) (fun _ hk=>hk.2) (.int .i64 ((rd_T26 l1 x57_3).f2.f0))) (fun _ hk=>hk.2) (.int .i64 ((rd_T26 l1 x57_3).f2.f1))) (fun _ h_=>h_.1))) hb);have n1_:=Aside0.mk (blk_below (g:=gb388) (o:=.cells #[.int .i64 ((rd_T26 l1 x57_3).f0),.int .i64 ((rd_T26 l1 x57_3).f1.f0),.int .i64 ((rd_T26 l1 x57_3).f1.f1),.int .i64 ((rd_T26 l1 x57_3).f2.f0),.int .i64 ((rd_T26 l1 x57_3).f2.f1)] 26 (0,0)) (by (with_reducible repeat (first|refine blk_drewN ?_ _|refine blk_drew ?_|refine blk_alloc ?_ _));refine blk_put (cs:=#[.int .i64 ((rd_T26 l1 x57_3).f0),.int .i64 ((rd_T26 l1 x57_3).f1.f0),.int .i64 ((rd_T26 l1 x57_3).f1.f1),.int .i64 ((rd_T26 l1 x57_3).f2.f0),.int .i64 0]) ?_ 4 _ rfl;(with_reducible repeat (first|refine blk_drewN ?_ _|refine blk_drew ?_|refine blk_alloc ?_ _));refine blk_put (cs:=#[.int .i64 ((rd_T26 l1 x57_3).f0),.int .i64 ((rd_T26 l1 x57_3).f1.f0),.int .i64 ((rd_T26 l1 x57_3).f1.f1),.int .i64 0,.int .i64 0]) ?_ 3 _ rfl;(with_reducible repeat (first|refine blk_drewN ?_ _|refine blk_drew ?_|refine blk_alloc ?_ _));refine blk_put (cs:=#[.int .i64 ((rd_T26 l1 x57_3).f0),.int .i64 ((rd_T26 l1 x57_3).f1.f0),.int .i64 0,.int .i64 0,.int .i64 0]) ?_ 2 _ rfl;(with_reducible repeat (first|refine blk_drewN ?_ _|refine blk_drew ?_|refine blk_alloc ?_ _));refine blk_put (cs:=#[.int .i64 ((rd_T26 l1 x57_3).f0),.int .i64 0,.int .i64 0,.int .i64 0,.int .i64 0]) ?_ 1 _ rfl;(with_reducible repeat (first|refine blk_drewN ?_ _|refine blk_drew ?_|refine blk_alloc ?_ _));refine blk_put (cs:=#[.int .i64 0,.int .i64 0,.int .i64 0,.int .i64 0,.int .i64 0]) ?_ 0 _ rfl;(with_reducible repeat (first|refine blk_drewN ?_ _|refine blk_drew ?_|refine blk_alloc ?_ _));exact BK388.out) hb);have n2_:=Aside0.mk (below_step (by repeat (first|(with_reducible first|exact HB.out|apply below_alloc|apply pw_below_drewN|apply below_drew1|refine below_set ?_ GE388.out)|exact HB.out)) hb);clear HO_5;clear BK388;clear HB;have HO_5:=n0_;have BK388:=n1_;have HB:=n2_;clear n0_ n1_ n2_;(try clear hb);(try clear hb2);(try clear hk);(try clear hi)))
              go_ret
              exact ⟨by first|rfl|(simp [errW_none,errW_some] <;> rfl)|(simp [*,errW_none,errW_some] <;> rfl),by repeat (first|(with_reducible first|exact HB.out|apply below_alloc|apply pw_below_drewN|apply below_drew1|refine below_set ?_ GE388.out)|exact HB.out)⟩
            ·rw [if_neg c39] at H
             have c39b0 : (t390 == 0) = false:=beq_eq_false_iff_ne.mpr c39
             have c39b1 : (t390 != 0) = true:=bne_iff_ne.mpr c39
             obtain rfl:=Option.some.inj H
             have p387 : 0 ≤ (x57_3 : Int):=of_decide_eq_true (by first|(with_reducible assumption)|assumption)
             have q387 : x57_3 < (l1.length : Int):=of_decide_eq_true (by first|(with_reducible assumption)|assumption)
             obtain ⟨ad387,e387,hx387_0,hx387_1,hx387_2,hx387_3,hx387_4⟩:=at_T26 HR1.out x57_3 p387 q387
             cases e387
             replace hx387_0:=(HB.out.cell (World.block_lt_of_cell? w _ hx387_0)).trans hx387_0
             replace hx387_1:=(HB.out.cell (World.block_lt_of_cell? w _ hx387_1)).trans hx387_1
             replace hx387_2:=(HB.out.cell (World.block_lt_of_cell? w _ hx387_2)).trans hx387_2
             replace hx387_3:=(HB.out.cell (World.block_lt_of_cell? w _ hx387_3)).trans hx387_3
             replace hx387_4:=(HB.out.cell (World.block_lt_of_cell? w _ hx387_4)).trans hx387_4
             replace p387:=eq_true p387
             replace q387:=eq_true q387
             go_wp2_with (first|((with_reducible refine gate_dst (N:=10) rfl ?_);(try (refine gate_guard (by rfl) ?_;dsimp only));refine box_event ?hg (N:=10) ?hd (cs:=#[.int .i64 0,.int .i64 0,.int .i64 0,.int .i64 0,.int .i64 0]) (t:=26) ?hr ?_;(case hd=>rfl);(case hg=>rfl);(case hr=>first|(go_simp;done)|(go_simp;rfl));intro gb388 hg w49 hbox hb;have n0_:=Aside0.mk (Kd.R_below (Kd.R_elderB (by (with_reducible repeat (first|apply Kd.R_alloc|apply Kd.R_drewN|apply Kd.R_drew));exact HO_5.out) gb388 (Nat.le_of_eq hg.symm)) hb);have n1_:=Aside0.mk (below_step (by repeat (first|(with_reducible first|exact HB.out|apply below_alloc|apply pw_below_drewN|apply below_drew1)|exact HB.out)) hb);have n2_:=Aside0.mk (hbox);have n3_:=Aside0.mk ((by rw [hg];exact (below_size (by repeat (first|(with_reducible first|exact HB.out|apply below_alloc|apply pw_below_drewN|apply below_drew1)|exact HB.out))) : w.heap.size ≤ gb388));have n4_:=Aside0.mk ((by rw [hg];exact (below_size (by repeat (first|(with_reducible first|exact HB.out|apply below_alloc|apply pw_below_drewN|apply below_drew1)|exact HB.out))) : w.heap.size ≤ gb388));clear HO_5;clear HB;have HO_5:=n0_;have HB:=n1_;have BK388:=n2_;have GW388:=n3_;have GE388:=n4_;clear n0_ n1_ n2_ n3_ n4_;clear hb hbox hg;have hcz50_0 : w49.cell? ⟨gb388,0,none⟩ = some (.int .i64 0):=(blk_cell BK388.out 0).trans rfl;have hcz50_1 : w49.cell? ⟨gb388,1,none⟩ = some (.int .i64 0):=(blk_cell BK388.out 1).trans rfl;have hcz50_2 : w49.cell? ⟨gb388,2,none⟩ = some (.int .i64 0):=(blk_cell BK388.out 2).trans rfl;have hcz50_3 : w49.cell? ⟨gb388,3,none⟩ = some (.int .i64 0):=(blk_cell BK388.out 3).trans rfl;have hcz50_4 : w49.cell? ⟨gb388,4,none⟩ = some (.int .i64 0):=(blk_cell BK388.out 4).trans rfl;have hfz50_0:=blk_frozen BK388.out 0;have hfz50_1:=blk_frozen BK388.out 1;have hfz50_2:=blk_frozen BK388.out 2;have hfz50_3:=blk_frozen BK388.out 3;have hfz50_4:=blk_frozen BK388.out 4;obtain ⟨Ao51,co51,eo51⟩:=Kd.R_slice HO_5.out;subst eo51)|((with_reducible refine gate_callee (f:=13) rfl ?_);refine goesL_ (some 65) rfl rfl Try.func13 (by kernel_rfl) rfl #[.int .i64 a0,.slice Ao51 t377.length co51,.agg #[.int .i64 ((rd_T26 l1 x57_3).f0),.int .i64 ((rd_T26 l1 x57_3).f1.f0),.int .i64 ((rd_T26 l1 x57_3).f1.f1),.int .i64 ((rd_T26 l1 x57_3).f2.f0),.int .i64 ((rd_T26 l1 x57_3).f2.f1)]] rfl (by (try simp only [List.map_toArray,List.map_cons,List.map_nil]);first|done|rfl|(simp only [List.length_drop,List.length_take];rfl)) ?_;(with_reducible refine (difference_Implies.calls k3 a0 _ _ t377 ((rd_T26 l1 x57_3).f0) ((rd_T26 l1 x57_3).f1.f0) ((rd_T26 l1 x57_3).f1.f1) ((rd_T26 l1 x57_3).f2.f0) ((rd_T26 l1 x57_3).f2.f1) t389 t390 _ ?side1 ?side2 A38.out).mono ?_);(case side1=>refine (Kd.R_reads' (e:=26) (base:=w.heap.size) (ok:=fun k_=>(True ∧ k_ ≠ gb388)) (n:=t377.length) (c:=co51) ?_).2.2;exact (by (with_reducible repeat (first|apply Kd.R_alloc|apply Kd.R_drewN|apply Kd.R_drew));exact (Kd.R_mono (Kd.R_far (p:=⟨gb388,4,none⟩) (Kd.R_far (p:=⟨gb388,3,none⟩) (Kd.R_far (p:=⟨gb388,2,none⟩) (Kd.R_far (p:=⟨gb388,1,none⟩) (Kd.R_far (p:=⟨gb388,0,none⟩) (Kd.R_mono HO_5.out (fun k_ hk=>(⟨hk,hk.2⟩ : _ ∧ k_ ≠ gb388))) (fun _ hk=>hk.2) (.int .i64 ((rd_T26 l1 x57_3).f0))) (fun _ hk=>hk.2) (.int .i64 ((rd_T26 l1 x57_3).f1.f0))) (fun _ hk=>hk.2) (.int .i64 ((rd_T26 l1 x57_3).f1.f1))) (fun _ hk=>hk.2) (.int .i64 ((rd_T26 l1 x57_3).f2.f0))) (fun _ hk=>hk.2) (.int .i64 ((rd_T26 l1 x57_3).f2.f1))) (fun _ h_=>h_.1))));(case side2=>exact (Kd.R_reads' HO_5.out).2.1);rintro e w52 ⟨rfl,hb⟩;refine ⟨_,rfl,?_⟩;have n0_:=Aside0.mk (Kd.R_below (by (with_reducible repeat (first|apply Kd.R_alloc|apply Kd.R_drewN|apply Kd.R_drew));exact (Kd.R_mono (Kd.R_far (p:=⟨gb388,4,none⟩) (Kd.R_far (p:=⟨gb388,3,none⟩) (Kd.R_far (p:=⟨gb388,2,none⟩) (Kd.R_far (p:=⟨gb388,1,none⟩) (Kd.R_far (p:=⟨gb388,0,none⟩) (Kd.R_mono HO_5.out (fun k_ hk=>(⟨hk,hk.2⟩ : _ ∧ k_ ≠ gb388))) (fun _ hk=>hk.2) (.int .i64 ((rd_T26 l1 x57_3).f0))) (fun _ hk=>hk.2) (.int .i64 ((rd_T26 l1 x57_3).f1.f0))) (fun _ hk=>hk.2) (.int .i64 ((rd_T26 l1 x57_3).f1.f1))) (fun _ hk=>hk.2) (.int .i64 ((rd_T26 l1 x57_3).f2.f0))) (fun _ hk=>hk.2) (.int .i64 ((rd_T26 l1 x57_3).f2.f1))) (fun _ h_=>h_.1))) hb);have n1_:=Aside0.mk (blk_below (g:=gb388) (o:=.cells #[.int .i64 ((rd_T26 l1 x57_3).f0),.int .i64 ((rd_T26 l1 x57_3).f1.f0),.int .i64 ((rd_T26 l1 x57_3).f1.f1),.int .i64 ((rd_T26 l1 x57_3).f2.f0),.int .i64 ((rd_T26 l1 x57_3).f2.f1)] 26 (0,0)) (by (with_reducible repeat (first|refine blk_drewN ?_ _|refine blk_drew ?_|refine blk_alloc ?_ _));refine blk_put (cs:=#[.int .i64 ((rd_T26 l1 x57_3).f0),.int .i64 ((rd_T26 l1 x57_3).f1.f0),.int .i64 ((rd_T26 l1 x57_3).f1.f1),.int .i64 ((rd_T26 l1 x57_3).f2.f0),.int .i64 0]) ?_ 4 _ rfl;(with_reducible repeat (first|refine blk_drewN ?_ _|refine blk_drew ?_|refine blk_alloc ?_ _));refine blk_put (cs:=#[.int .i64 ((rd_T26 l1 x57_3).f0),.int .i64 ((rd_T26 l1 x57_3).f1.f0),.int .i64 ((rd_T26 l1 x57_3).f1.f1),.int .i64 0,.int .i64 0]) ?_ 3 _ rfl;(with_reducible repeat (first|refine blk_drewN ?_ _|refine blk_drew ?_|refine blk_alloc ?_ _));refine blk_put (cs:=#[.int .i64 ((rd_T26 l1 x57_3).f0),.int .i64 ((rd_T26 l1 x57_3).f1.f0),.int .i64 0,.int .i64 0,.int .i64 0]) ?_ 2 _ rfl;(with_reducible repeat (first|refine blk_drewN ?_ _|refine blk_drew ?_|refine blk_alloc ?_ _));refine blk_put (cs:=#[.int .i64 ((rd_T26 l1 x57_3).f0),.int .i64 0,.int .i64 0,.int .i64 0,.int .i64 0]) ?_ 1 _ rfl;(with_reducible repeat (first|refine blk_drewN ?_ _|refine blk_drew ?_|refine blk_alloc ?_ _));refine blk_put (cs:=#[.int .i64 0,.int .i64 0,.int .i64 0,.int .i64 0,.int .i64 0]) ?_ 0 _ rfl;(with_reducible repeat (first|refine blk_drewN ?_ _|refine blk_drew ?_|refine blk_alloc ?_ _));exact BK388.out) hb);have n2_:=Aside0.mk (below_step (by repeat (first|(with_reducible first|exact HB.out|apply below_alloc|apply pw_below_drewN|apply below_drew1|refine below_set ?_ GE388.out)|exact HB.out)) hb);clear HO_5;clear BK388;clear HB;have HO_5:=n0_;have BK388:=n1_;have HB:=n2_;clear n0_ n1_ n2_;(try clear hb);(try clear hb2);(try clear hk);(try clear hi)))
             go_ret
             exact ⟨by first|rfl|(simp [errW_none,errW_some] <;> rfl)|(simp [*,errW_none,errW_some] <;> rfl),by repeat (first|(with_reducible first|exact HB.out|apply below_alloc|apply pw_below_drewN|apply below_drew1|refine below_set ?_ GE388.out)|exact HB.out)⟩
           ·rw [if_neg c37] at H
            exact absurd H (by simp)
          ·rw [if_neg c36] at H
           exact absurd H (by simp)
         ·rw [if_neg c35] at H
          have c35b0 : decide (x57_3 < (l1.length : Int)) = false:=decide_eq_false c35
          clear c35
          obtain rfl:=Option.some.inj H
          go_wp2
          go_ret
          exact ⟨by first|rfl|(simp [errW_none,errW_some] <;> rfl)|(simp [*,errW_none,errW_some] <;> rfl),by repeat (first|(with_reducible first|exact HB.out|apply below_alloc|apply pw_below_drewN|apply below_drew1)|exact HB.out)⟩

end Go.Proofs.Yteebkkdbkkibmaa.Pr
